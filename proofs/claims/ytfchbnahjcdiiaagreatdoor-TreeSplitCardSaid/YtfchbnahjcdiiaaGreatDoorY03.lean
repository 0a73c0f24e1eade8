/- Packed by a program of mine (wip/tools/pack.py): the same texts with short names and few blanks. -/
import Derived.KernelRfl
import Derived.Test.YtfchbnahjcdiiaaGreatDoorY02
set_option linter.unusedVariables false
set_option linter.unusedSimpArgs false
set_option linter.unusedSectionVars false
namespace Go.Proofs.YtfchbnahjcdiiaaGreatDoor
open Vc
set_option maxRecDepth 100000
set_option maxHeartbeats 4000000
set_option linter.unusedSimpArgs false
set_option linter.unusedVariables false
noncomputable section
def D5 (O:((List UInt8)×(Int×Unit))):Int→Option (Int⊕(Int⊕(Bool×Int))):=fun Z=>
 if (decide (Z<(List.length O.1:Int)))=true then
  if 0≤Z∧Z≤(List.length O.1:Int)∧(List.length O.1:Int)≤(List.length O.1:Int) then
   if 0≤(0:Int)∧(0:Int)<(List.length (oZ O.1 Z (List.length O.1:Int)):Int) then
    if (decide ((0:Int)≤(rV ([32,9,10,13]:List UInt8) (pA (oZ O.1 Z (List.length O.1:Int)) (0:Int)))))=true then
     if oT (Z+(1:Int)) then
      some (.inl (Z+(1:Int)))
     else none
    else
     (GD (oZ O.1 Z (List.length O.1:Int)) ([47,47]:List UInt8)).bind fun aA=>
     if ((decide ((List.length ([47,47]:List UInt8):Int)≤(List.length (oZ O.1 Z (List.length O.1:Int)):Int)))&&(decide ((oZ (oZ O.1 Z (List.length O.1:Int)) (0:Int) (List.length ([47,47]:List UInt8):Int))=([47,47]:List UInt8))))=true then
      if (decide ((rV (oZ O.1 Z (List.length O.1:Int)) (10:Int))<(0:Int)))=true then
       if oT ((List.length (oZ O.1 Z (List.length O.1:Int)):Int)- (1:Int)) then
        if oT (((List.length (oZ O.1 Z (List.length O.1:Int)):Int)- (1:Int))+(1:Int)) then
         if oT (Z+(((List.length (oZ O.1 Z (List.length O.1:Int)):Int)- (1:Int))+(1:Int))) then
          some (.inl (Z+(((List.length (oZ O.1 Z (List.length O.1:Int)):Int)- (1:Int))+(1:Int))))
         else none
        else none
       else none
      else
       if oT ((rV (oZ O.1 Z (List.length O.1:Int)) (10:Int))+(1:Int)) then
        if oT (Z+((rV (oZ O.1 Z (List.length O.1:Int)) (10:Int))+(1:Int))) then
         some (.inl (Z+((rV (oZ O.1 Z (List.length O.1:Int)) (10:Int))+(1:Int))))
        else none
       else none
     else
      (GD (oZ O.1 Z (List.length O.1:Int)) ([47,42]:List UInt8)).bind fun aB=>
      if ((decide ((List.length ([47,42]:List UInt8):Int)≤(List.length (oZ O.1 Z (List.length O.1:Int)):Int)))&&(decide ((oZ (oZ O.1 Z (List.length O.1:Int)) (0:Int) (List.length ([47,42]:List UInt8):Int))=([47,42]:List UInt8))))=true then
       if 0≤(2:Int)∧(2:Int)≤(List.length (oZ O.1 Z (List.length O.1:Int)):Int)∧(List.length (oZ O.1 Z (List.length O.1:Int)):Int)≤(List.length (oZ O.1 Z (List.length O.1:Int)):Int) then
        if List.length (oZ (oZ O.1 Z (List.length O.1:Int)) (2:Int) (List.length (oZ O.1 Z (List.length O.1:Int)):Int))<4294967281 then
         if (decide ((HQ (oZ (oZ O.1 Z (List.length O.1:Int)) (2:Int) (List.length (oZ O.1 Z (List.length O.1:Int)):Int)) ([42,47]:List UInt8))<(0:Int)))=true then
          some (.inr (.inr ((false,Z))))
         else
          if oT ((HQ (oZ (oZ O.1 Z (List.length O.1:Int)) (2:Int) (List.length (oZ O.1 Z (List.length O.1:Int)):Int)) ([42,47]:List UInt8))+(4:Int)) then
           if oT (Z+((HQ (oZ (oZ O.1 Z (List.length O.1:Int)) (2:Int) (List.length (oZ O.1 Z (List.length O.1:Int)):Int)) ([42,47]:List UInt8))+(4:Int))) then
            some (.inl (Z+((HQ (oZ (oZ O.1 Z (List.length O.1:Int)) (2:Int) (List.length (oZ O.1 Z (List.length O.1:Int)):Int)) ([42,47]:List UInt8))+(4:Int))))
           else none
          else none
        else none
       else none
      else
       some (.inr (.inl Z))
   else none
  else none
 else
  some (.inr (.inl Z))
def EX (O:((List UInt8)×(Int×Unit))):Option (Bool×Int):=
 qT (pR (D5 O) O.2.1) fun Z=>
 some ((true,Z))
section
variable (O:((List UInt8)×(Int×Unit)))
@[reducible] def a01:List Slot:=[(.val .ref (some (0,0)),none)]
@[reducible] def a02:List Blk:=[.cells sC O []]
@[go_sem] def a03:Ret:=⟨[((EX O)).isSome=true],[(.val .bool ((val (EX O)).1),none)],[.cells sC (O.1,((val (EX O)).2,())) []]⟩
def aAe:List Slot→List Blk→Option Ret:=pM (V:=((List UInt8)×(Int×Unit))) (fun x=>a01) (fun x=>a02 x) fun x=>a03 x
@[go_sem] theorem aLY:aAe (no_index a01) (no_index (a02 O))=some (a03 O):=pN (fun a0 b0 h1 h2=>by cases h1;cases h2;rfl) O
end
@[reducible,go_sem] def aAf:Nat×Sig:=(64,⟨[.p sC []],aAe,[],[],none⟩)
theorem vJ:Env Tryz.prog [s5,q7,KR] (pE [KS,a9B,a7w]):=⟨⟨sG,⟨q9,⟨TT,trivial⟩⟩⟩,p5 OT (p5 aGs (p5 aFN pP)),pH⟩
theorem aGH:pI Tryz.prog aAf:=by
 refine pO vJ Tryz.func64 (c:=_) rfl (N:=73) (by kernel_rfl) (ts:=[(2,none)]) rfl (fun _ _=>rfl) ?_
 intro O hs hrow
 dsimp only[a01,a02,a03,pJ,enumH,pD,pG,pL,Nat.reduceAdd] at hs hrow⊢
 have hz:=hs
 obtain⟨z0,hC0⟩:=Option.isSome_iff_exists.1 hz
 try rw[pW hC0]
 clear hz hs
 unfold EX at hC0
 refine oS vJ ?_
 refine aE0 (p4 (aEX (oW (p4 (pT ?_)))))
 obtain⟨y1,hy1,hC0⟩:=sX hC0
 refine rH 0 (fun s=> ∃v,y1= .inl v∧s=(fun x=>⟨[],[(0,.cells sC (O.1,(x,())) [])],1,73,1⟩) v) ?_ ?_
 ·refine rG hy1 (fun x=>⟨[(0,(.val .ref (some (0,0)),none))],[(0,.cells sC (O.1,(x,())) [])],1,73,1⟩) ⟨[0],[(0,0)]⟩ (by rfl) ?_
  intro Z w1 n1 hC1 hN1
  unfold D5 at hC1
  dsimp only at hC1⊢
  refine p4 ?_
  refine qK vJ ?_
  refine oX hC1 (fun hC1 hc1=> ?_) (fun hC1 hc1=> ?_)
  ·refine p6 (oW (pT ?_))
   obtain⟨hg1,hC1⟩:=oU hC1
   refine qK vJ ?_ (hp:=by exact hg1)
   refine pT ?_
   obtain⟨hg2,hC1⟩:=oU hC1
   refine oS vJ ?_ (hp:=by exact hg2)
   refine oX hC1 (fun hC1 hc2=> ?_) (fun hC1 hc2=> ?_)
   ·obtain⟨hg3,hC1⟩:=oU hC1
    refine pF vJ ?_ (hp:=by exact hg3)
    refine pB (pB ?_)
    cases hC1
    exact qG ⟨⟨[0],[(0,0)]⟩,_,by rfl,hN1⟩
   ·obtain⟨aA,hv4,hw4,hC1⟩:=p8 hC1
    try simp only[go_sem] at hw4
    refine oS vJ ?_ (hp:=by exact(p7 hv4)) (h:=by simp only[go_sem,hw4];rfl)
    refine oX hC1 (fun hC1 hc3=> ?_) (fun hC1 hc3=> ?_)
    ·refine oS vJ ?_
     refine p4 ?_
     refine oS vJ ?_
     refine oX hC1 (fun hC1 hc4=> ?_) (fun hC1 hc4=> ?_)
     ·obtain⟨hg5,hC1⟩:=oU hC1
      refine pF vJ ?_ (hp:=by exact hg5)
      refine oW ?_
      obtain⟨hg6,hC1⟩:=oU hC1
      obtain⟨hg7,hC1⟩:=oU hC1
      refine pF vJ ?_ (hp:=by exact And.intro hg6 (hg7))
      refine pB (pB ?_)
      cases hC1
      exact qG ⟨⟨[0],[(0,0)]⟩,_,by rfl,hN1⟩
     ·refine p6 (oW ?_)
      obtain⟨hg8,hC1⟩:=oU hC1
      obtain⟨hg9,hC1⟩:=oU hC1
      refine pF vJ ?_ (hp:=by exact And.intro hg8 (hg9))
      refine pB (pB ?_)
      cases hC1
      exact qG ⟨⟨[0],[(0,0)]⟩,_,by rfl,hN1⟩
    ·obtain⟨aB,hv10,hw10,hC1⟩:=p8 hC1
     try simp only[go_sem] at hw10
     refine oS vJ ?_ (hp:=by exact(p7 hv10)) (h:=by simp only[go_sem,hw10];rfl)
     refine oX hC1 (fun hC1 hc5=> ?_) (fun hC1 hc5=> ?_)
     ·obtain⟨hg11,hC1⟩:=oU hC1
      obtain⟨hg12,hC1⟩:=oU hC1
      refine oS vJ ?_ (hp:=by exact And.intro hg11 (hg12))
      refine p4 ?_
      refine oS vJ ?_
      refine oX hC1 (fun hC1 hc6=> ?_) (fun hC1 hc6=> ?_)
      ·refine oS vJ ?_
       refine oV (pC (pS (pS (sK (sJ (pS (pC ?_)))))))
       cases hC1
       cases hN1
       dsimp only at hC0
       cases hC0
       exact⟨[(0,0)],by rfl,by rfl,by rfl⟩
      ·refine p6 (oW ?_)
       obtain⟨hg13,hC1⟩:=oU hC1
       obtain⟨hg14,hC1⟩:=oU hC1
       refine pF vJ ?_ (hp:=by exact And.intro hg13 (hg14))
       refine pB (pB ?_)
       cases hC1
       exact qG ⟨⟨[0],[(0,0)]⟩,_,by rfl,hN1⟩
     ·refine qW (T6 (by decide) (T6 (by decide) (qZ ?_)))
      cases hC1
      cases hN1
      exact qY ⟨⟨[],[(0,0)]⟩,_,rfl,by rfl⟩
  ·refine qW (r7 (qZ ?_))
   cases hC1
   cases hN1
   exact qY ⟨⟨[],[(0,0)]⟩,_,rfl,by rfl⟩
 ·rintro _ ⟨aC,rfl,rfl⟩
  dsimp only at hC0⊢
  refine rE (oW ?_)
  refine oS vJ ?_
  refine oV ?_
  cases hC0
  exact⟨[(0,0)],by rfl,by rfl,by rfl⟩
attribute [irreducible] EX
def aAm (O:(List UInt8)):Int→Option (Int⊕Int):=fun Z=>
 if ((((decide (Z<(List.length O:Int)))&&(decide (Z<(12:Int))))==true)=true→0≤Z∧Z<(List.length O:Int)) then
  if (((decide (Z<(List.length O:Int)))&&(decide (Z<(12:Int))))&&(!decide ((pA O Z)=(59:Int))))=true then
   if oT (Z+(1:Int)) then
    some (.inl (Z+(1:Int)))
   else none
  else
   some (.inr Z)
 else none
def ID (O:(List UInt8)):Option ((List UInt8)×Int):=
 qD (pR (aAm O) (0:Int)) fun Z=>
 if (((decide (Z=(List.length O:Int)))==false)=true→0≤Z∧Z<(List.length O:Int)) then
  if ((decide (Z=(List.length O:Int)))||(!decide ((pA O Z)=(59:Int))))=true then
   some ((([]:List UInt8),(0:Int)))
  else
   if 0≤(1:Int)∧(1:Int)≤Z∧Z≤(List.length O:Int) then
    if (decide ((oZ O (1:Int) Z)=([97,109,112]:List UInt8)))=true then
     if oT (Z+(1:Int)) then
      some ((([38]:List UInt8),(Z+(1:Int))))
     else none
    else
     if (decide ((oZ O (1:Int) Z)=([108,116]:List UInt8)))=true then
      if oT (Z+(1:Int)) then
       some ((([60]:List UInt8),(Z+(1:Int))))
      else none
     else
      if (decide ((oZ O (1:Int) Z)=([103,116]:List UInt8)))=true then
       if oT (Z+(1:Int)) then
        some ((([62]:List UInt8),(Z+(1:Int))))
       else none
      else
       if (decide ((oZ O (1:Int) Z)=([113,117,111,116]:List UInt8)))=true then
        if oT (Z+(1:Int)) then
         some ((([34]:List UInt8),(Z+(1:Int))))
        else none
       else
        if (decide ((oZ O (1:Int) Z)=([97,112,111,115]:List UInt8)))=true then
         if oT (Z+(1:Int)) then
          some ((([39]:List UInt8),(Z+(1:Int))))
         else none
        else
         qD (σ:=Int) (
           if ((((decide ((3:Int)≤(List.length (oZ O (1:Int) Z):Int)))&&(decide ((List.length (oZ O (1:Int) Z):Int)≤(8:Int))))==true)=true→0≤(0:Int)∧(0:Int)≤(2:Int)∧(2:Int)≤(List.length (oZ O (1:Int) Z):Int)) then
            if (((decide ((3:Int)≤(List.length (oZ O (1:Int) Z):Int)))&&(decide ((List.length (oZ O (1:Int) Z):Int)≤(8:Int))))&&(decide ((oZ (oZ O (1:Int) Z) (0:Int) (2:Int))=([35,120]:List UInt8))))=true then
             if 0≤(2:Int)∧(2:Int)≤(List.length (oZ O (1:Int) Z):Int)∧(List.length (oZ O (1:Int) Z):Int)≤(List.length (oZ O (1:Int) Z):Int) then
              (BP (oZ (oZ O (1:Int) Z) (2:Int) (List.length (oZ O (1:Int) Z):Int)) (16:Int)).bind fun aA=>
              some (aA)
             else none
            else
             if ((((decide ((2:Int)≤(List.length (oZ O (1:Int) Z):Int)))&&(decide ((List.length (oZ O (1:Int) Z):Int)≤(8:Int))))==true)=true→0≤(0:Int)∧(0:Int)≤(1:Int)∧(1:Int)≤(List.length (oZ O (1:Int) Z):Int)) then
              if (((decide ((2:Int)≤(List.length (oZ O (1:Int) Z):Int)))&&(decide ((List.length (oZ O (1:Int) Z):Int)≤(8:Int))))&&(decide ((oZ (oZ O (1:Int) Z) (0:Int) (1:Int))=([35]:List UInt8))))=true then
               if 0≤(1:Int)∧(1:Int)≤(List.length (oZ O (1:Int) Z):Int)∧(List.length (oZ O (1:Int) Z):Int)≤(List.length (oZ O (1:Int) Z):Int) then
                (BP (oZ (oZ O (1:Int) Z) (1:Int) (List.length (oZ O (1:Int) Z):Int)) (10:Int)).bind fun aB=>
                some (aB)
               else none
              else
               some ((-1:Int))
             else none
           else none
          ) fun aC=>
         if ((decide (aC<(0:Int)))||(!(((decide ((0:Int)≤aC))&&(decide (aC≤(1114111:Int))))&&((decide (aC<(55296:Int)))||(decide ((57343:Int)<aC))))))=true then
          some ((([]:List UInt8),(0:Int)))
         else
          (yD aC).bind fun aD=>
          if oT (Z+(1:Int)) then
           some ((aD,(Z+(1:Int))))
          else none
   else none
 else none
section
variable (O:(List UInt8))
@[reducible] def a1e:List Slot:=[(.val .str O,none)]
@[reducible] def a1f:List Blk:=[]
@[go_sem] def a1g:Ret:=⟨[((ID O)).isSome=true],[(.val .str ((val (ID O)).1),none),(.val (.int .i64) ((val (ID O)).2),none)],[]⟩
def aAn:List Slot→List Blk→Option Ret:=pM (V:=(List UInt8)) (fun x=>a1e x) (fun x=>a1f) fun x=>a1g x
@[go_sem] theorem aL2:aAn (no_index (a1e O)) (no_index a1f)=some (a1g O):=pN (fun a0 b0 h1 h2=>by cases h1;cases h2;rfl) O
end
@[reducible,go_sem] def aAo:Nat×Sig:=(177,⟨[.v],aAn,[],[],none⟩)
theorem sS:Env Tryz.prog [q7] (pE [a0H,L7,L8]):=⟨⟨q9,trivial⟩,p5 a94 (p5 P0 (p5 P1 pP)),pH⟩
theorem aGL:pI Tryz.prog aAo:=by
 refine pO sS Tryz.func177 (c:=_) rfl (N:=102) (by kernel_rfl) (ts:=[(2,none),(3,none)]) rfl (fun _ _=>rfl) ?_
 intro O hs hrow
 dsimp only[a1e,a1f,a1g,pJ,enumH,pD,pG,pL,Nat.reduceAdd] at hs hrow⊢
 have hz:=hs
 obtain⟨z0,hC0⟩:=Option.isSome_iff_exists.1 hz
 try rw[pW hC0]
 clear hz hs
 unfold ID at hC0
 refine oS sS ?_
 refine oS sS ?_
 refine p4 (pT ?_)
 obtain⟨Z,hy1,hC0⟩:=oY hC0
 refine rH 0 (fun s=>s=(fun x=>⟨[(0,(.val .str O,none)),(4,(.val (.int .i64) x,none))],[],0,102,0⟩) Z) ?_ ?_
 ·refine rG hy1 (fun x=>⟨[(0,(.val .str O,none)),(4,(.val (.int .i64) x,none))],[],0,102,0⟩) ⟨[0,4],[]⟩ (by rfl) ?_
  intro aA w1 n1 hC1 hN1
  unfold aAm at hC1
  dsimp only at hC1⊢
  refine p4 ?_
  obtain⟨hg1,hC1⟩:=oU hC1
  refine oS sS ?_ (hp:=by exact And.intro (fun hh=>hh) (And.intro (fun hh=>pZ hh) (And.intro (fun hh=>hh) (And.intro (fun hh=>hh) (And.intro hg1 (And.intro (fun hh=>hh) ((fun hh=>pZ hh))))))))
  refine oX hC1 (fun hC1 hc1=> ?_) (fun hC1 hc1=> ?_)
  ·refine p6 (oW (pT ?_))
   obtain⟨hg2,hC1⟩:=oU hC1
   refine pF sS ?_ (hp:=by exact hg2)
   refine pB ?_
   cases hC1
   exact qG ⟨⟨[0,4],[]⟩,_,by rfl,hN1⟩
  ·refine qW (r7 (qZ ?_))
   cases hC1
   cases hN1
   exact qY ⟨⟨[0,4],[]⟩,by rfl⟩
 ·rintro _ rfl
  dsimp only at hC0⊢
  refine rE (oW (p4 ?_))
  obtain⟨hg3,hC0⟩:=oU hC0
  refine oS sS ?_ (hp:=by exact And.intro (fun hh=>hh) (And.intro (fun hh=>hh) (And.intro hg3 (And.intro (fun hh=>hh) ((fun hh=>sF hh))))))
  refine oX hC0 (fun hC0 hc2=> ?_) (fun hC0 hc2=> ?_)
  ·refine oS sS ?_
   refine oV (pC ?_)
   cases hC0
   exact⟨[],by rfl,by rfl,by rfl⟩
  ·refine p6 (oW ?_)
   obtain⟨hg4,hC0⟩:=oU hC0
   refine oS sS ?_ (hp:=by exact hg4)
   refine p4 ?_
   refine oS sS ?_
   refine pT ?_
   refine oS sS ?_
   refine oX hC0 (fun hC0 hc3=> ?_) (fun hC0 hc3=> ?_)
   ·obtain⟨hg5,hC0⟩:=oU hC0
    refine oS sS ?_ (hp:=by exact hg5)
    refine oV (pS (pC ?_))
    cases hC0
    exact⟨[],by rfl,by rfl,by rfl⟩
   ·refine oS sS ?_
    refine oX hC0 (fun hC0 hc4=> ?_) (fun hC0 hc4=> ?_)
    ·obtain⟨hg6,hC0⟩:=oU hC0
     refine oS sS ?_ (hp:=by exact hg6)
     refine oV (pS (pC ?_))
     cases hC0
     exact⟨[],by rfl,by rfl,by rfl⟩
    ·refine oS sS ?_
     refine oX hC0 (fun hC0 hc5=> ?_) (fun hC0 hc5=> ?_)
     ·obtain⟨hg7,hC0⟩:=oU hC0
      refine oS sS ?_ (hp:=by exact hg7)
      refine oV (pS (pC ?_))
      cases hC0
      exact⟨[],by rfl,by rfl,by rfl⟩
     ·refine oS sS ?_
      refine oX hC0 (fun hC0 hc6=> ?_) (fun hC0 hc6=> ?_)
      ·obtain⟨hg8,hC0⟩:=oU hC0
       refine oS sS ?_ (hp:=by exact hg8)
       refine oV (pS (pC ?_))
       cases hC0
       exact⟨[],by rfl,by rfl,by rfl⟩
      ·refine oS sS ?_
       refine oX hC0 (fun hC0 hc7=> ?_) (fun hC0 hc7=> ?_)
       ·obtain⟨hg9,hC0⟩:=oU hC0
        refine oS sS ?_ (hp:=by exact hg9)
        refine oV (pS (pC ?_))
        cases hC0
        exact⟨[],by rfl,by rfl,by rfl⟩
       ·refine p6 (pB (oW ?_))
        refine oS sS ?_
        refine p4 ?_
        obtain⟨aB,hC1,hC0⟩:=oY hC0
        refine y8 (fun s=>s=(fun x=>⟨[(4,(.val (.int .i64) Z,none)),(6,(.val (.int .i64) x,none))],[],0,102,0⟩) aB) ?_ ?_
        ·refine pT ?_
         obtain⟨hg10,hC1⟩:=oU hC1
         refine oS sS ?_ (hp:=by exact And.intro (fun hh=>hh) (And.intro (fun hh=>hh) (And.intro (fun hh=>pZ hh) (And.intro (fun hh=>hh) (And.intro hg10 (And.intro (fun hh=>hh) ((fun hh=>pZ hh))))))))
         refine oX hC1 (fun hC1 hc8=> ?_) (fun hC1 hc8=> ?_)
         ·obtain⟨hg11,hC1⟩:=oU hC1
          obtain⟨aC,hv12,hw12,hC1⟩:=p8 hC1
          try simp only[go_sem] at hw12
          refine pF sS ?_ (hp:=by exact And.intro hg11 ((p7 hv12))) (h:=by simp only[go_sem,hw12];rfl)
          refine pB ?_
          cases hC1
          exact rK ⟨⟨[4,6],[]⟩,by rfl⟩
         ·obtain⟨hg13,hC1⟩:=oU hC1
          refine oS sS ?_ (hp:=by exact And.intro (fun hh=>hh) (And.intro (fun hh=>hh) (And.intro (fun hh=>pZ hh) (And.intro (fun hh=>hh) (And.intro hg13 (And.intro (fun hh=>hh) ((fun hh=>pZ hh))))))))
          refine oX hC1 (fun hC1 hc9=> ?_) (fun hC1 hc9=> ?_)
          ·obtain⟨hg14,hC1⟩:=oU hC1
           obtain⟨aD,hv15,hw15,hC1⟩:=p8 hC1
           try simp only[go_sem] at hw15
           refine pF sS ?_ (hp:=by exact And.intro hg14 ((p7 hv15))) (h:=by simp only[go_sem,hw15];rfl)
           refine pB ?_
           cases hC1
           exact rK ⟨⟨[4,6],[]⟩,by rfl⟩
          ·refine p6 (pB ?_)
           cases hC1
           exact rK ⟨⟨[4,6],[]⟩,by rfl⟩
        ·rintro _ rfl
         dsimp only at hC0⊢
         refine oW (p4 ?_)
         refine oS sS ?_ (hp:=by exact And.intro (fun hh=>hh) (And.intro (fun hh=>hh) ((fun hh=>sF hh))))
         refine oX hC0 (fun hC0 hc10=> ?_) (fun hC0 hc10=> ?_)
         ·refine oS sS ?_
          refine oV (pC ?_)
          cases hC0
          exact⟨[],by rfl,by rfl,by rfl⟩
         ·refine p6 (oW ?_)
          obtain⟨aE,hv16,hw16,hC0⟩:=p8 hC0
          try simp only[go_sem] at hw16
          obtain⟨hg17,hC0⟩:=oU hC0
          refine oS sS ?_ (hp:=by exact And.intro (p7 hv16) (hg17)) (h:=by simp only[go_sem,hw16];rfl)
          refine oV ?_
          cases hC0
          exact⟨[],by rfl,by rfl,by rfl⟩
attribute [irreducible] ID
def BQ (O:(List UInt8)):Option Bool:=
 (ET O).bind fun Z=>
 (G9 Z).bind fun aA=>
 some ((decide (aA=O)))
section
variable (O:(List UInt8))
@[reducible] def a0S:List Slot:=[(.val .str O,none)]
@[reducible] def a0T:List Blk:=[]
@[go_sem] def a0U:Ret:=⟨[((BQ O)).isSome=true],[(.val .bool (val (BQ O)),none)],[]⟩
def aAa:List Slot→List Blk→Option Ret:=pM (V:=(List UInt8)) (fun x=>a0S x) (fun x=>a0T) fun x=>a0U x
@[go_sem] theorem aLW:aAa (no_index (a0S O)) (no_index a0T)=some (a0U O):=pN (fun a0 b0 h1 h2=>by cases h1;cases h2;rfl) O
end
@[reducible,go_sem] def aAb:Nat×Sig:=(179,⟨[.v],aAa,[],[],none⟩)
theorem a0V:Env Tryz.prog [] (pE [a96,a9a]):=⟨trivial,p5 aGC (p5 aGf pP),pH⟩
theorem aGF:pI Tryz.prog aAb:=by
 refine pO a0V Tryz.func179 (c:=_) rfl (N:=8) (by kernel_rfl) (ts:=[(2,none)]) rfl (fun _ _=>rfl) ?_
 intro O hs hrow
 dsimp only[a0S,a0T,a0U,pJ,enumH,pD,pG,pL,Nat.reduceAdd] at hs hrow⊢
 have hz:=hs
 obtain⟨z0,hC0⟩:=Option.isSome_iff_exists.1 hz
 try rw[pW hC0]
 clear hz hs
 unfold BQ at hC0
 refine oS a0V ?_
 obtain⟨Z,hv1,hw1,hC0⟩:=p8 hC0
 try simp only[go_sem] at hw1
 obtain⟨aA,hv2,hw2,hC0⟩:=p8 hC0
 try simp only[go_sem] at hw2
 refine oS a0V ?_ (hp:=by exact And.intro (p7 hv1) ((p7 hv2))) (h:=by simp only[go_sem,hw1,hw2];rfl)
 refine oV ?_
 cases hC0
 exact⟨[],by rfl,by rfl,by rfl⟩
attribute [irreducible] BQ
end
end Go.Proofs.YtfchbnahjcdiiaaGreatDoor
namespace Go.Proofs.YtfchbnahjcdiiaaGreatDoor
open Vc
set_option maxRecDepth 100000
set_option maxHeartbeats 4000000
set_option linter.unusedSimpArgs false
set_option linter.unusedVariables false
noncomputable section
def GI (O:(List UInt8)) (Z:(List UInt8)) (aA:(List UInt8)) (aB:(List UInt8)) (aC:(List (List UInt8))) (aD:(Int×((List p9)×Unit))) (aE:Bool) (aF:(List (List UInt8))) (aG:(List ((List UInt8)×Bool))):Option Bool:=
 (EQ aD.2.1 O).bind fun aH=>
 some (aH.2)
section
variable (O:(List UInt8)) (Z:(List UInt8)) (aA:(List UInt8)) (aB:(List UInt8)) (aC:(List (List UInt8))) (aD:Nat) (aE:(Int×((List p9)×Unit))) (aF:Bool) (aG:Nat) (aH:Nat) (aI:(List (List UInt8))) (aJ:Nat) (aK:(List ((List UInt8)×Bool)))
@[reducible] def a0W:List Slot:=[(.val .str O,none),(.val .ref (some (0,0)),none)]
@[reducible] def a0X:List Blk:=[.cells .ref (some (1,0)) [],.cells r8 ((Z,(aA,(aB,(aC,((some (4,aD)),aE))))),(aF,((some 5),()))) [(3,2),(6,3)],.grow 9 1 aG,.grow 144 2 aH,.row 9 .str aI aJ,.map .str .bool aK]
@[go_sem] def a0Y:Ret:=⟨[aG=(List.length aC),aH=(List.length aE.2.1),aD=aJ,((GI O Z aA aB aC aE aF aI aK)).isSome=true],[(.val .bool (val (GI O Z aA aB aC aE aF aI aK)),none)],[.cells .ref (some (1,0)) [],.cells r8 ((Z,(aA,(aB,(aC,((some (4,(List.length aI))),(aE.1,(aE.2.1,()))))))),(aF,((some 5),()))) [(3,2),(6,3)],.grow 9 1 (List.length aC),.grow 144 2 (List.length aE.2.1),.row 9 .str aI (List.length aI),.map .str .bool aK]⟩
def aAc:List Slot→List Blk→Option Ret:=pM (V:=((List UInt8)×(List UInt8)×(List UInt8)×(List UInt8)×(List (List UInt8))×Nat×(Int×((List p9)×Unit))×Bool×Nat×Nat×(List (List UInt8))×Nat×(List ((List UInt8)×Bool)))) (fun x=>a0W x.1) (fun x=>a0X x.2.1 x.2.2.1 x.2.2.2.1 x.2.2.2.2.1 x.2.2.2.2.2.1 x.2.2.2.2.2.2.1 x.2.2.2.2.2.2.2.1 x.2.2.2.2.2.2.2.2.1 x.2.2.2.2.2.2.2.2.2.1 x.2.2.2.2.2.2.2.2.2.2.1 x.2.2.2.2.2.2.2.2.2.2.2.1 x.2.2.2.2.2.2.2.2.2.2.2.2) fun x=>a0Y x.1 x.2.1 x.2.2.1 x.2.2.2.1 x.2.2.2.2.1 x.2.2.2.2.2.1 x.2.2.2.2.2.2.1 x.2.2.2.2.2.2.2.1 x.2.2.2.2.2.2.2.2.1 x.2.2.2.2.2.2.2.2.2.1 x.2.2.2.2.2.2.2.2.2.2.1 x.2.2.2.2.2.2.2.2.2.2.2.1 x.2.2.2.2.2.2.2.2.2.2.2.2
@[go_sem] theorem aLX:aAc (no_index (a0W O)) (no_index (a0X Z aA aB aC aD aE aF aG aH aI aJ aK))=some (a0Y O Z aA aB aC aD aE aF aG aH aI aJ aK):=pN (fun⟨a0,a1,a2,a3,a4,a5,a6,a7,a8,a9,a10,a11,a12⟩ ⟨b0,b1,b2,b3,b4,b5,b6,b7,b8,b9,b10,b11,b12⟩ h1 h2=>by cases h1;cases h2;rfl) (O,Z,aA,aB,aC,aD,aE,aF,aG,aH,aI,aJ,aK)
end
@[reducible,go_sem] def a0Z:Nat×Sig:=(187,⟨[.v,.p .ref []],aAc,[(0,0,.p r8 [3,6]),(1,4,.r),(1,8,.m)],[0,1,2,3,4,5],none⟩)
theorem aAd:Env Tryz.prog [] (pE [a0s]):=⟨trivial,p5 aGy pP,pH⟩
theorem a00:Env Tryz.prog [AJ,AM,HT,yV] (pE [a0s]):=⟨⟨CO,⟨CQ,⟨OR,⟨AK,trivial⟩⟩⟩⟩,aAd.Γ,pH⟩
theorem aGG:pI Tryz.prog a0Z:=by
 refine pO aAd Tryz.func187 (c:=_) rfl (N:=17) (by kernel_rfl) (ts:=[(3,none)]) rfl (fun _ _=>rfl) ?_
 intro⟨O,Z,aA,aB,aC,aD,aE,aF,aG,aH,aI,aJ,aK⟩ hs hrow
 dsimp only[a0W,a0X,a0Y,pJ,enumH,pD,pG,pL,Nat.reduceAdd] at hs hrow⊢
 obtain⟨rfl,rfl,rfl,hz⟩:=hs
 obtain⟨rfl,_⟩:=hrow
 obtain⟨z0,hC0⟩:=Option.isSome_iff_exists.1 hz
 try rw[pW hC0]
 clear hz
 unfold GI at hC0
 refine oS a00 ?_
 obtain⟨aL,hv1,hw1,hC0⟩:=p8 hC0
 try simp only[go_sem] at hw1
 refine oS a00 ?_ (hp:=by exact(p7 hv1)) (h:=by simp only[go_sem,hw1];rfl)
 refine oS a00 ?_
 refine oV ?_
 cases hC0
 exact⟨[(0,0),(1,1),(2,2),(3,3),(4,4),(5,5)],by rfl,by rfl,by rfl⟩
attribute [irreducible] GI
def BR (O:((List Int)×Unit)) (Z:Int):Option (Int×(List Int)):=
 (EV O.1 Z).bind fun aA=>
 if oT ((List.length aA:Int)- (List.length O.1:Int)) then
  some ((((List.length aA:Int)- (List.length O.1:Int)),aA))
 else none
section
variable (O:Int) (Z:((List Int)×Unit)) (aA:Nat)
@[reducible] def a07:List Slot:=[(.val .ref (some (0,0)),none),(.val (.int .i32) O,none)]
@[reducible] def a08:List Blk:=[.cells uU ((some (0,0)),Z) [(1,1)],.grow 5 1 aA]
@[go_sem] def a09:Ret:=⟨[aA=(List.length Z.1),((BR Z O)).isSome=true],[(.val (.int .i64) ((val (BR Z O)).1),none),(.any,none)],[.cells uU ((some (0,0)),((val (BR Z O)).2,())) [(1,1)],.grow 5 1 (List.length ((val (BR Z O)).2))]⟩
def aAi:List Slot→List Blk→Option Ret:=pM (V:=(Int×((List Int)×Unit)×Nat)) (fun x=>a07 x.1) (fun x=>a08 x.2.1 x.2.2) fun x=>a09 x.1 x.2.1 x.2.2
@[go_sem] theorem aL0:aAi (no_index (a07 O)) (no_index (a08 Z aA))=some (a09 O Z aA):=pN (fun⟨a0,a1,a2⟩ ⟨b0,b1,b2⟩ h1 h2=>by cases h1;cases h2;rfl) (O,Z,aA)
end
@[reducible,go_sem] def aAj:Nat×Sig:=(218,⟨[.p uU [1],.v],aAi,[],[],none⟩)
theorem IB:Env Tryz.prog [AE,G0] (pE [OU,a98]):=⟨⟨CK,⟨KO,trivial⟩⟩,p5 TV (p5 aGD pP),pH⟩
theorem aGJ:pI Tryz.prog aAj:=by
 refine pO IB Tryz.func218 (c:=_) rfl (N:=30) (by kernel_rfl) (ts:=[(4,none),(5,none)]) rfl (fun _ _=>rfl) ?_
 intro⟨O,Z,aA⟩ hs hrow
 dsimp only[a07,a08,a09,pJ,enumH,pD,pG,pL,Nat.reduceAdd] at hs hrow⊢
 obtain⟨rfl,hz⟩:=hs
 obtain⟨z0,hC0⟩:=Option.isSome_iff_exists.1 hz
 try rw[pW hC0]
 clear hz
 unfold BR at hC0
 refine oS IB ?_
 refine oS IB ?_ (hp:=by exact(by first|exact rfl|exact trivial))
 refine oS IB ?_
 obtain⟨aB,hv1,hw1,hC0⟩:=p8 hC0
 try simp only[go_sem] at hw1
 refine oS IB ?_ (hp:=by exact And.intro (by first|exact rfl|exact trivial) ((p7 hv1))) (h:=by simp only[go_sem,hw1];rfl)
 obtain⟨hg2,hC0⟩:=oU hC0
 refine oS IB ?_ (hp:=by exact hg2)
 refine oV ?_
 cases hC0
 exact⟨[(0,0),(1,1)],by rfl,by rfl,by rfl⟩
attribute [irreducible] BR
def IE (O:Int) (Z:(List UInt8)):((List Int)×Int)→Option (((List Int)×Int)⊕((List Int)⊕((List UInt8)×Int×Int))):=fun(aA,aB)=>
 if (decide (aB<(List.length Z:Int)))=true then
  if 0≤aB∧aB<(List.length Z:Int) then
   if oT (aB+(1:Int)) then
    if 0≤aB∧aB≤(aB+(1:Int))∧(aB+(1:Int))≤(List.length Z:Int) then
     qD (σ:=((List UInt8)×Int)) (
       if ((!decide (O=(4:Int)))&&(decide ((pA Z aB)=(92:Int))))=true then
        if 0≤aB∧aB≤(List.length Z:Int)∧(List.length Z:Int)≤(List.length Z:Int) then
         (D6 (oZ Z aB (List.length Z:Int))).bind fun aC=>
         some ((aC.1,aC.2))
        else none
       else
        if ((decide (O=(4:Int)))&&(decide ((pA Z aB)=(38:Int))))=true then
         if 0≤aB∧aB≤(List.length Z:Int)∧(List.length Z:Int)≤(List.length Z:Int) then
          (ID (oZ Z aB (List.length Z:Int))).bind fun aD=>
          some ((aD.1,aD.2))
         else none
        else
         if ((!decide (O=(4:Int)))&&(decide ((pA Z aB)=(10:Int))))=true then
          if ((!decide (O=(4:Int)))&&(decide ((pA Z aB)=(10:Int))))=true then
           some (((oZ Z aB (aB+(1:Int))),(0:Int)))
          else
           some (((oZ Z aB (aB+(1:Int))),(1:Int)))
         else
          if (((decide (O=(2:Int)))||(decide (O=(3:Int))))&&(decide ((pA Z aB)=(34:Int))))=true then
           if (((decide (O=(2:Int)))||(decide (O=(3:Int))))&&(decide ((pA Z aB)=(34:Int))))=true then
            some (((oZ Z aB (aB+(1:Int))),(0:Int)))
           else
            some (((oZ Z aB (aB+(1:Int))),(1:Int)))
          else
           if (((decide (O=(4:Int)))==true)=true→((CT (pA Z aB) ([60,34]:List UInt8))).isSome=true) then
            if ((decide (O=(4:Int)))&&(val (CT (pA Z aB) ([60,34]:List UInt8))))=true then
             some (((oZ Z aB (aB+(1:Int))),(0:Int)))
            else
             some (((oZ Z aB (aB+(1:Int))),(1:Int)))
           else none
      ) fun(aE,aF)=>
     if (decide (aF=(0:Int)))=true then
      some (.inr (.inr ((([]:List UInt8),aB,(3:Int)))))
     else
      if List.length aA+List.length aE≤140737488355328 then
       if oT (aB+aF) then
        some (.inl ((aA++s3 aE),(aB+aF)))
       else none
      else none
    else none
   else none
  else none
 else
  some (.inr (.inl aA))
def BS (O:Int) (Z:(List UInt8)):Option ((List UInt8)×Int×Int):=
 if (!((decide ((1:Int)≤O))&&(decide (O≤(4:Int)))))=true then
  some ((([]:List UInt8),(0:Int),(1:Int)))
 else
  qT (pR (IE O Z) (([]:List Int),(0:Int))) fun aA=>
  some (((rA aA),(0:Int),(0:Int)))
section
variable (O:Int) (Z:(List UInt8))
@[reducible] def a1h:List Slot:=[(.val (.int .i64) O,none),(.val .str Z,none)]
@[reducible] def a1i:List Blk:=[]
@[go_sem] def a1j:Ret:=⟨[((BS O Z)).isSome=true],[(.val .str ((val (BS O Z)).1),none),(.val (.int .i64) ((val (BS O Z)).2.1),none),(.val (.int .i64) ((val (BS O Z)).2.2),none)],[]⟩
def aAp:List Slot→List Blk→Option Ret:=pM (V:=(Int×(List UInt8))) (fun x=>a1h x.1 x.2) (fun x=>a1i) fun x=>a1j x.1 x.2
@[go_sem] theorem aL3:aAp (no_index (a1h O Z)) (no_index a1i)=some (a1j O Z):=pN (fun⟨a0,a1⟩ ⟨b0,b1⟩ h1 h2=>by cases h1;cases h2;rfl) (O,Z)
end
@[reducible,go_sem] def aAq:Nat×Sig:=(137,⟨[.v,.v],aAp,[],[],none⟩)
theorem tJ:Env Tryz.prog [zP,q7,AE] (pE [XC,aAh,aAo,XL]):=⟨⟨BG,⟨q9,⟨CK,trivial⟩⟩⟩,p5 a8Q (p5 aGI (p5 aGL (p5 a8V pP))),pH⟩
theorem aGM:pI Tryz.prog aAq:=by
 refine pO tJ Tryz.func137 (c:=_) rfl (N:=89) (by kernel_rfl) (ts:=[(4,none),(5,none),(6,none)]) rfl (fun _ _=>rfl) ?_
 intro⟨O,Z⟩ hs hrow
 dsimp only[a1h,a1i,a1j,pJ,enumH,pD,pG,pL,Nat.reduceAdd] at hs hrow⊢
 have hz:=hs
 obtain⟨z0,hC0⟩:=Option.isSome_iff_exists.1 hz
 try rw[pW hC0]
 clear hz hs
 unfold BS at hC0
 refine oS tJ ?_
 refine p4 ?_
 refine oS tJ ?_
 refine oX hC0 (fun hC0 hc1=> ?_) (fun hC0 hc1=> ?_)
 ·refine oS tJ ?_
  refine oV (pC ?_)
  cases hC0
  exact⟨[],by rfl,by rfl,by rfl⟩
 ·refine p6 (oW ?_)
  refine oS tJ ?_
  refine oS tJ ?_
  refine p4 (pT ?_)
  obtain⟨y1,hy1,hC0⟩:=sX hC0
  refine rH 0 (fun s=> ∃v,y1= .inl v∧s=(fun x=>⟨[(7,(.val (.list (.int .u8)) x,some 0))],[(0,.grow 5 1 (List.length x))],1,89,0⟩) v) ?_ ?_
  ·refine rG hy1 (fun x=>⟨[(0,(.val (.int .i64) O,none)),(1,(.val .str Z,none)),(7,(.val (.list (.int .u8)) x.1,some 0)),(8,(.val (.int .i64) x.2,none))],[(0,.grow 5 1 (List.length x.1))],1,89,0⟩) ⟨[0,1,7,8],[(0,96)]⟩ (by rfl) ?_
   intro x1 w1 n1 hC1 hN1
   obtain⟨aA,aB⟩:=x1
   unfold IE at hC1
   dsimp only at hC1⊢
   refine p4 ?_
   refine oS tJ ?_
   refine oX hC1 (fun hC1 hc2=> ?_) (fun hC1 hc2=> ?_)
   ·refine p6 (oW (pT ?_))
    obtain⟨hg1,hC1⟩:=oU hC1
    refine oS tJ ?_ (hp:=by exact hg1)
    obtain⟨hg2,hC1⟩:=oU hC1
    obtain⟨hg3,hC1⟩:=oU hC1
    refine oS tJ ?_ (hp:=by exact And.intro hg2 (hg3))
    refine p4 ?_
    obtain⟨y2,hC2,hC1⟩:=oY hC1
    refine y8 (fun s=>s=(fun x=>⟨[(0,(.val (.int .i64) O,none)),(1,(.val .str Z,none)),(7,(.val (.list (.int .u8)) aA,some 0)),(8,(.val (.int .i64) aB,none)),(10,(.val .str x.1,none)),(11,(.val (.int .i64) x.2,none))],[(0,.grow 5 1 (List.length aA))],1,89,0⟩) y2) ?_ ?_
    ·refine pT ?_
     refine oS tJ ?_ (hp:=by exact And.intro (fun hh=>hh) ((fun hh=>pZ hh)))
     refine oX hC2 (fun hC2 hc3=> ?_) (fun hC2 hc3=> ?_)
     ·obtain⟨hg4,hC2⟩:=oU hC2
      obtain⟨aC,hv5,hw5,hC2⟩:=p8 hC2
      try simp only[go_sem] at hw5
      refine pF tJ ?_ (hp:=by exact And.intro hg4 ((p7 hv5))) (h:=by simp only[go_sem,hw5];rfl)
      refine pB ?_
      cases hC2
      exact rK ⟨⟨[0,1,7,8,10,11],[(0,0)]⟩,by rfl⟩
     ·refine oS tJ ?_ (hp:=by exact And.intro (fun hh=>hh) ((fun hh=>pZ hh)))
      refine oX hC2 (fun hC2 hc4=> ?_) (fun hC2 hc4=> ?_)
      ·obtain⟨hg6,hC2⟩:=oU hC2
       obtain⟨aD,hv7,hw7,hC2⟩:=p8 hC2
       try simp only[go_sem] at hw7
       refine pF tJ ?_ (hp:=by exact And.intro hg6 ((p7 hv7))) (h:=by simp only[go_sem,hw7];rfl)
       refine pB ?_
       cases hC2
       exact rK ⟨⟨[0,1,7,8,10,11],[(0,0)]⟩,by rfl⟩
      ·refine p4 ?_
       refine oS tJ ?_ (hp:=by exact And.intro (fun hh=>hh) ((fun hh=>pZ hh)))
       refine oX hC2 (fun hC2 hc5=> ?_) (fun hC2 hc5=> ?_)
       ·refine p6 (oW ?_)
        refine oX hC2 (fun hC2 hc6=> ?_) (fun hC2 hc6=> ?_)
        ·refine pF tJ ?_
         refine pB ?_
         cases hC2
         exact rK ⟨⟨[0,1,7,8,10,11],[(0,0)]⟩,by rfl⟩
        ·refine p6 (pB ?_)
         cases hC2
         exact rK ⟨⟨[0,1,7,8,10,11],[(0,0)]⟩,by rfl⟩
       ·refine oS tJ ?_ (hp:=by exact And.intro (fun hh=>hh) (And.intro (fun hh=>sF hh) (And.intro (fun hh=>hh) ((fun hh=>pZ hh)))))
        refine oX hC2 (fun hC2 hc7=> ?_) (fun hC2 hc7=> ?_)
        ·refine p6 (oW ?_)
         refine oX hC2 (fun hC2 hc8=> ?_) (fun hC2 hc8=> ?_)
         ·refine pF tJ ?_
          refine pB ?_
          cases hC2
          exact rK ⟨⟨[0,1,7,8,10,11],[(0,0)]⟩,by rfl⟩
         ·refine p6 (pB ?_)
          cases hC2
          exact rK ⟨⟨[0,1,7,8,10,11],[(0,0)]⟩,by rfl⟩
        ·obtain⟨hg8,hC2⟩:=oU hC2
         refine pF tJ ?_ (hp:=by exact And.intro (fun hh=>hh) (And.intro hg8 ((fun hh=>pZ hh))))
         refine oW ?_
         refine oX hC2 (fun hC2 hc9=> ?_) (fun hC2 hc9=> ?_)
         ·refine pF tJ ?_
          refine pB ?_
          cases hC2
          exact rK ⟨⟨[0,1,7,8,10,11],[(0,0)]⟩,by rfl⟩
         ·refine p6 (pB ?_)
          cases hC2
          exact rK ⟨⟨[0,1,7,8,10,11],[(0,0)]⟩,by rfl⟩
    ·rintro _ rfl
     obtain⟨aE,aF⟩:=y2
     dsimp only at hC1⊢
     refine oW (p4 ?_)
     refine oS tJ ?_
     refine oX hC1 (fun hC1 hc10=> ?_) (fun hC1 hc10=> ?_)
     ·refine oS tJ ?_
      refine oV (pC (pS (sK (sJ (pS (pC ?_))))))
      cases hC1
      cases hN1
      dsimp only at hC0
      cases hC0
      exact⟨[],by rfl,by rfl,by rfl⟩
     ·refine p6 (oW ?_)
      obtain⟨hg9,hC1⟩:=oU hC1
      refine oS tJ ?_ (hp:=by exact And.intro (by first|exact rfl|exact trivial) (hg9))
      obtain⟨hg10,hC1⟩:=oU hC1
      refine pF tJ ?_ (hp:=by exact hg10)
      refine pB ?_
      cases hC1
      exact qG ⟨⟨[0,1,7,8],[(0,0)]⟩,_,by rfl,hN1⟩
   ·refine qW (r7 (qZ ?_))
    cases hC1
    cases hN1
    exact qY ⟨⟨[7],[(0,0)]⟩,_,rfl,by rfl⟩
  ·rintro _ ⟨aG,rfl,rfl⟩
   dsimp only at hC0⊢
   refine rE (oW ?_)
   refine oS tJ ?_
   refine oV ?_
   cases hC0
   exact⟨[],by rfl,by rfl,by rfl⟩
attribute [irreducible] BS
def IC (O:(List UInt8)):Option Unit:=
 if (((decide ((List.length O:Int)≤(4000:Int)))==true)=true→((BQ O)).isSome=true) then
  some (())
 else none
section
variable (O:(List UInt8))
@[reducible] def a1a:List Slot:=[(.val .str O,none)]
@[reducible] def a1b:List Blk:=[]
@[go_sem] def a1c:Ret:=⟨[((IC O)).isSome=true],[(.val .bool ((decide ((List.length O:Int)≤(4000:Int)))&&(val (BQ O))),none)],[]⟩
def aAk:List Slot→List Blk→Option Ret:=pM (V:=(List UInt8)) (fun x=>a1a x) (fun x=>a1b) fun x=>a1c x
@[go_sem] theorem aL1:aAk (no_index (a1a O)) (no_index a1b)=some (a1c O):=pN (fun a0 b0 h1 h2=>by cases h1;cases h2;rfl) O
end
@[reducible,go_sem] def aAl:Nat×Sig:=(138,⟨[.v],aAk,[],[],none⟩)
theorem a1d:Env Tryz.prog [q7] (pE [aAb]):=⟨⟨q9,trivial⟩,p5 aGF pP,pH⟩
theorem aGK:pI Tryz.prog aAl:=by
 refine pO a1d Tryz.func138 (c:=_) rfl (N:=10) (by kernel_rfl) (ts:=[(2,none)]) rfl (fun _ _=>rfl) ?_
 intro O hs hrow
 dsimp only[a1a,a1b,a1c,pJ,enumH,pD,pG,pL,Nat.reduceAdd] at hs hrow⊢
 have hz:=hs
 obtain⟨z0,hC0⟩:=Option.isSome_iff_exists.1 hz
 try rw[pW hC0]
 clear hz hs
 unfold IC at hC0
 refine oS a1d ?_
 obtain⟨hg1,hC0⟩:=oU hC0
 refine oS a1d ?_ (hp:=by exact And.intro (fun hh=>hh) (And.intro hg1 ((fun hh=>pZ hh))))
 refine oV ?_
 cases hC0
 exact⟨[],by rfl,by rfl,by rfl⟩
attribute [irreducible] IC
end
end Go.Proofs.YtfchbnahjcdiiaaGreatDoor
namespace Go.Proofs.YtfchbnahjcdiiaaGreatDoor
open Vc
set_option maxRecDepth 100000
set_option maxHeartbeats 4000000
set_option linter.unusedSimpArgs false
set_option linter.unusedVariables false
noncomputable section
def LJ (O:(List Int)):(Int×(List Int))→Option ((Int×(List Int))⊕(List Int)):=fun(Z,aA)=>
 if (decide (Z<(List.length O:Int)))=true then
  if 0≤Z∧Z<(List.length O:Int) then
   if (!(((decide ((0:Int)≤(pY (.int .i64) O Z)))&&(decide ((pY (.int .i64) O Z)≤(1114111:Int))))&&((decide ((pY (.int .i64) O Z)<(55296:Int)))||(decide ((57343:Int)<(pY (.int .i64) O Z))))))=true then
    (BR (aA,()) (IntKind.wrap .i32 (65533:Int))).bind fun aB=>
    if oT (Z+(1:Int)) then
     some (.inl ((Z+(1:Int)),aB.2))
    else none
   else
    (BR (aA,()) (IntKind.wrap .i32 (pY (.int .i64) O Z))).bind fun aC=>
    if oT (Z+(1:Int)) then
     some (.inl ((Z+(1:Int)),aC.2))
    else none
  else none
 else
  some (.inr aA)
def IF (O:(List Int)):Option (List UInt8):=
 qD (pR (LJ O) ((0:Int),([]:List Int))) fun Z=>
 some ((rA Z))
section
variable (O:(List Int))
@[reducible] def a1k:List Slot:=[(.val (.list (.int .i64)) O,none)]
@[reducible] def a1l:List Blk:=[]
@[go_sem] def a1m:Ret:=⟨[((IF O)).isSome=true],[(.val .str (val (IF O)),none)],[]⟩
def aAr:List Slot→List Blk→Option Ret:=pM (V:=(List Int)) (fun x=>a1k x) (fun x=>a1l) fun x=>a1m x
@[go_sem] theorem aL4:aAr (no_index (a1k O)) (no_index a1l)=some (a1m O):=pN (fun a0 b0 h1 h2=>by cases h1;cases h2;rfl) O
end
@[reducible,go_sem] def aAs:Nat×Sig:=(210,⟨[.v],aAr,[],[],none⟩)
theorem z8:Env Tryz.prog [s5,HR,AL,G0] (pE [a9h,aAj,TW]):=⟨⟨sG,⟨OK,⟨CP,⟨KO,trivial⟩⟩⟩⟩,p5 aGi (p5 aGJ (p5 a7x pP)),pH⟩
theorem aGN:pI Tryz.prog aAs:=by
 refine pO z8 Tryz.func210 (c:=_) rfl (N:=20) (by kernel_rfl) (ts:=[(2,none)]) rfl (fun _ _=>rfl) ?_
 intro O hs hrow
 dsimp only[a1k,a1l,a1m,pJ,enumH,pD,pG,pL,Nat.reduceAdd] at hs hrow⊢
 have hz:=hs
 obtain⟨z0,hC0⟩:=Option.isSome_iff_exists.1 hz
 try rw[pW hC0]
 clear hz hs
 unfold IF at hC0
 refine oS z8 ?_
 refine oS z8 ?_
 refine p4 ?_
 refine oS z8 ?_
 refine pT ?_
 obtain⟨Z,hy1,hC0⟩:=oY hC0
 refine rH 0 (fun s=>s=(fun x=>⟨[(3,(.val .ref (some (0,0)),none))],[(0,.cells uU ((some (0,0)),(x,())) [(1,1)]),(1,.grow 5 1 (List.length x))],2,20,0⟩) Z) ?_ ?_
 ·refine rG hy1 (fun x=>⟨[(3,(.val .ref (some (0,0)),none)),(6,(.val (.list (.int .i64)) O,none)),(7,(.val (.int .i64) (List.length O:Int),none)),(8,(.val (.int .i64) x.1,none))],[(0,.cells uU ((some (0,0)),(x.2,())) [(1,1)]),(1,.grow 5 1 (List.length x.2))],2,20,0⟩) ⟨[3,6,7,8],[(0,16),(1,17)]⟩ (by rfl) ?_
  intro x1 w1 n1 hC1 hN1
  obtain⟨aA,aB⟩:=x1
  unfold LJ at hC1
  dsimp only at hC1⊢
  refine oS z8 ?_
  refine p4 ?_
  refine oX hC1 (fun hC1 hc1=> ?_) (fun hC1 hc1=> ?_)
  ·refine p6 (oW (p4 (pT ?_)))
   obtain⟨hg1,hC1⟩:=oU hC1
   refine oS z8 ?_ (hp:=by exact hg1)
   refine p4 ?_
   refine oS z8 ?_
   refine oX hC1 (fun hC1 hc2=> ?_) (fun hC1 hc2=> ?_)
   ·refine pF z8 ?_
    refine oW ?_
    obtain⟨aC,hv2,hw2,hC1⟩:=p8 hC1
    try simp only[go_sem] at hw2
    refine pF z8 ?_ (hp:=by exact And.intro (by first|exact rfl|exact trivial) ((p7 hv2))) (h:=by simp only[go_sem,hw2];rfl)
    refine pB (oW ?_)
    obtain⟨hg3,hC1⟩:=oU hC1
    refine pF z8 ?_ (hp:=by exact hg3)
    cases hC1
    exact qG ⟨⟨[3,6,7,8],[(0,0),(1,1)]⟩,_,by rfl,hN1⟩
   ·refine p6 (oW ?_)
    obtain⟨aD,hv4,hw4,hC1⟩:=p8 hC1
    try simp only[go_sem] at hw4
    refine pF z8 ?_ (hp:=by exact And.intro (by first|exact rfl|exact trivial) ((p7 hv4))) (h:=by simp only[go_sem,hw4];rfl)
    refine pB (oW ?_)
    obtain⟨hg5,hC1⟩:=oU hC1
    refine pF z8 ?_ (hp:=by exact hg5)
    cases hC1
    exact qG ⟨⟨[3,6,7,8],[(0,0),(1,1)]⟩,_,by rfl,hN1⟩
  ·refine qW (r7 (qZ ?_))
   cases hC1
   cases hN1
   exact qY ⟨⟨[3],[(0,0),(1,1)]⟩,by rfl⟩
 ·rintro _ rfl
  dsimp only at hC0⊢
  refine rE (oW ?_)
  refine oS z8 ?_ (hp:=by exact(by first|exact rfl|exact trivial))
  refine oV ?_
  cases hC0
  exact⟨[],by rfl,by rfl,by rfl⟩
attribute [irreducible] IF
def IG (O:(List UInt8)):Int→Option (Int⊕Int):=fun Z=>
 if (((decide (Z<(List.length O:Int)))==true)=true→0≤Z∧Z<(List.length O:Int)) then
  if ((((decide (Z<(List.length O:Int)))==true)&&((((decide ((97:Int)≤(pA O Z)))&&(decide ((pA O Z)≤(122:Int))))||((decide ((65:Int)≤(pA O Z)))&&(decide ((pA O Z)≤(90:Int)))))==false))=true→0≤Z∧Z<(List.length O:Int)) then
   if (((((decide (Z<(List.length O:Int)))==true)&&((((decide ((97:Int)≤(pA O Z)))&&(decide ((pA O Z)≤(122:Int))))||((decide ((65:Int)≤(pA O Z)))&&(decide ((pA O Z)≤(90:Int)))))==false))&&((decide ((48:Int)≤(pA O Z)))==true))=true→0≤Z∧Z<(List.length O:Int)) then
    if ((((decide (Z<(List.length O:Int)))==true)&&(((((decide ((97:Int)≤(pA O Z)))&&(decide ((pA O Z)≤(122:Int))))||((decide ((65:Int)≤(pA O Z)))&&(decide ((pA O Z)≤(90:Int)))))||((decide ((48:Int)≤(pA O Z)))&&(decide ((pA O Z)≤(57:Int)))))==false))=true→0≤Z∧Z<(List.length O:Int)) then
     if ((((decide (Z<(List.length O:Int)))==true)&&((((((decide ((97:Int)≤(pA O Z)))&&(decide ((pA O Z)≤(122:Int))))||((decide ((65:Int)≤(pA O Z)))&&(decide ((pA O Z)≤(90:Int)))))||((decide ((48:Int)≤(pA O Z)))&&(decide ((pA O Z)≤(57:Int)))))||(decide ((pA O Z)=(45:Int))))==false))=true→0≤Z∧Z<(List.length O:Int)) then
      if ((((decide (Z<(List.length O:Int)))==true)&&(((((((decide ((97:Int)≤(pA O Z)))&&(decide ((pA O Z)≤(122:Int))))||((decide ((65:Int)≤(pA O Z)))&&(decide ((pA O Z)≤(90:Int)))))||((decide ((48:Int)≤(pA O Z)))&&(decide ((pA O Z)≤(57:Int)))))||(decide ((pA O Z)=(45:Int))))||(decide ((pA O Z)=(95:Int))))==false))=true→0≤Z∧Z<(List.length O:Int)) then
       if ((decide (Z<(List.length O:Int)))&&(((((((decide ((97:Int)≤(pA O Z)))&&(decide ((pA O Z)≤(122:Int))))||((decide ((65:Int)≤(pA O Z)))&&(decide ((pA O Z)≤(90:Int)))))||((decide ((48:Int)≤(pA O Z)))&&(decide ((pA O Z)≤(57:Int)))))||(decide ((pA O Z)=(45:Int))))||(decide ((pA O Z)=(95:Int))))||(decide ((pA O Z)=(46:Int)))))=true then
        if oT (Z+(1:Int)) then
         some (.inl (Z+(1:Int)))
        else none
       else
        some (.inr Z)
      else none
     else none
    else none
   else none
  else none
 else none
def zS (O:(List UInt8)) (Z:Int):Option (Int×(List UInt8)×Int×Int):=
 (D0 O Z).bind fun aA=>
 if (decide (aA=(List.length O:Int)))=true then
  some (((0:Int),([]:List UInt8),aA,aA))
 else
  if 0≤aA∧aA<(List.length O:Int) then
   if ((decide ((pA O aA)=(123:Int)))||(decide ((pA O aA)=(125:Int))))=true then
    if oT (aA+(1:Int)) then
     if 0≤aA∧aA≤(aA+(1:Int))∧(aA+(1:Int))≤(List.length O:Int) then
      if oT (aA+(1:Int)) then
       some (((3:Int),(oZ O aA (aA+(1:Int))),aA,(aA+(1:Int))))
      else none
     else none
    else none
   else
    if (decide ((pA O aA)=(34:Int)))=true then
     if oT (aA+(1:Int)) then
      if 0≤(aA+(1:Int))∧(aA+(1:Int))≤(List.length O:Int)∧(List.length O:Int)≤(List.length O:Int) then
       (D3 (3:Int) (oZ O (aA+(1:Int)) (List.length O:Int)) (34:Int)).bind fun aB=>
       if (decide (aB<(0:Int)))=true then
        some (((0:Int),([]:List UInt8),aA,aA))
       else
        if oT (aA+(1:Int)) then
         if oT (aA+(1:Int)) then
          if oT ((aA+(1:Int))+aB) then
           if 0≤(aA+(1:Int))∧(aA+(1:Int))≤((aA+(1:Int))+aB)∧((aA+(1:Int))+aB)≤(List.length O:Int) then
            (BS (3:Int) (oZ O (aA+(1:Int)) ((aA+(1:Int))+aB))).bind fun aC=>
            if (((!decide (aC.2.2=(0:Int)))==false)=true→((IC aC.1)).isSome=true) then
             if ((!decide (aC.2.2=(0:Int)))||(!((decide ((List.length aC.1:Int)≤(4000:Int)))&&(val (BQ aC.1)))))=true then
              some (((0:Int),([]:List UInt8),aA,aA))
             else
              if oT (aA+aB) then
               if oT ((aA+aB)+(2:Int)) then
                some (((1:Int),aC.1,aA,((aA+aB)+(2:Int))))
               else none
              else none
            else none
           else none
          else none
         else none
        else none
      else none
     else none
    else
     if (((decide ((97:Int)≤(pA O aA)))&&(decide ((pA O aA)≤(122:Int))))||((decide ((65:Int)≤(pA O aA)))&&(decide ((pA O aA)≤(90:Int)))))=true then
      qD (pR (IG O) aA) fun aD=>
      if 0≤aA∧aA≤aD∧aD≤(List.length O:Int) then
       some (((2:Int),(oZ O aA aD),aA,aD))
      else none
     else
      some (((0:Int),([]:List UInt8),aA,aA))
  else none
section
variable (O:(List UInt8)) (Z:Int)
@[reducible] def a1n:List Slot:=[(.val .str O,none),(.val (.int .i64) Z,none)]
@[reducible] def a1o:List Blk:=[]
@[go_sem] def a1p:Ret:=⟨[((zS O Z)).isSome=true],[(.val CJ ((val (zS O Z)).1,((val (zS O Z)).2.1,((val (zS O Z)).2.2.1,((val (zS O Z)).2.2.2,())))),none)],[]⟩
def aAt:List Slot→List Blk→Option Ret:=pM (V:=((List UInt8)×Int)) (fun x=>a1n x.1 x.2) (fun x=>a1o) fun x=>a1p x.1 x.2
@[go_sem] theorem aL5:aAt (no_index (a1n O Z)) (no_index a1o)=some (a1p O Z):=pN (fun⟨a0,a1⟩ ⟨b0,b1⟩ h1 h2=>by cases h1;cases h2;rfl) (O,Z)
end
@[reducible,go_sem] def a1q:Nat×Sig:=(117,⟨[.v,.v],aAt,[],[],none⟩)
theorem tU:Env Tryz.prog [q7,AG] (pE [ZO,a9S,aAq,aAl,a8K]):=⟨⟨q9,⟨CM,trivial⟩⟩,p5 a9F (p5 aGx (p5 aGM (p5 aGK (p5 aGa pP)))),pH⟩
theorem aAu:pI Tryz.prog a1q:=by
 refine pO tU Tryz.func117 (c:=_) rfl (N:=135) (by kernel_rfl) (ts:=[(4,some 134)]) rfl (fun _ _=>rfl) ?_
 intro⟨O,Z⟩ hs hrow
 dsimp only[a1n,a1o,a1p,pJ,enumH,pD,pG,pL,Nat.reduceAdd] at hs hrow⊢
 have hz:=hs
 obtain⟨z0,hC0⟩:=Option.isSome_iff_exists.1 hz
 try rw[pW hC0]
 clear hz hs
 unfold zS at hC0
 refine oS tU ?_
 obtain⟨aA,hv1,hw1,hC0⟩:=p8 hC0
 try simp only[go_sem] at hw1
 refine oS tU ?_ (hp:=by exact(p7 hv1)) (h:=by simp only[go_sem,hw1];rfl)
 refine oS tU ?_
 refine p4 ?_
 refine oS tU ?_
 refine oX hC0 (fun hC0 hc1=> ?_) (fun hC0 hc1=> ?_)
 ·refine oS tU ?_
  refine oV (pC ?_)
  cases hC0
  exact⟨[],by rfl,by rfl,by rfl⟩
 ·refine p6 (oW (p4 ?_))
  obtain⟨hg2,hC0⟩:=oU hC0
  refine oS tU ?_ (hp:=by exact hg2)
  refine pT ?_
  refine oS tU ?_ (hp:=by exact And.intro (fun hh=>hh) ((fun hh=>sF hh)))
  refine oX hC0 (fun hC0 hc2=> ?_) (fun hC0 hc2=> ?_)
  ·obtain⟨hg3,hC0⟩:=oU hC0
   obtain⟨hg4,hC0⟩:=oU hC0
   obtain⟨hg5,hC0⟩:=oU hC0
   refine oS tU ?_ (hp:=by exact And.intro hg3 (And.intro hg4 (hg5)))
   refine oV (pS (pC ?_))
   cases hC0
   exact⟨[],by rfl,by rfl,by rfl⟩
  ·refine oS tU ?_
   refine oX hC0 (fun hC0 hc3=> ?_) (fun hC0 hc3=> ?_)
   ·obtain⟨hg6,hC0⟩:=oU hC0
    obtain⟨hg7,hC0⟩:=oU hC0
    obtain⟨aB,hv8,hw8,hC0⟩:=p8 hC0
    try simp only[go_sem] at hw8
    refine oS tU ?_ (hp:=by exact And.intro hg6 (And.intro hg7 ((p7 hv8)))) (h:=by simp only[go_sem,hw8];rfl)
    refine p4 ?_
    refine oS tU ?_
    refine oX hC0 (fun hC0 hc4=> ?_) (fun hC0 hc4=> ?_)
    ·refine oS tU ?_
     refine oV (pC (pS (pC ?_)))
     cases hC0
     exact⟨[],by rfl,by rfl,by rfl⟩
    ·refine p6 (oW ?_)
     obtain⟨hg9,hC0⟩:=oU hC0
     obtain⟨hg10,hC0⟩:=oU hC0
     obtain⟨hg11,hC0⟩:=oU hC0
     obtain⟨hg12,hC0⟩:=oU hC0
     obtain⟨aC,hv13,hw13,hC0⟩:=p8 hC0
     try simp only[go_sem] at hw13
     refine oS tU ?_ (hp:=by exact And.intro hg9 (And.intro hg10 (And.intro hg11 (And.intro hg12 ((p7 hv13)))))) (h:=by simp only[go_sem,hw13];rfl)
     refine p4 ?_
     obtain⟨hg14,hC0⟩:=oU hC0
     refine oS tU ?_ (hp:=by exact And.intro (fun hh=>hh) (And.intro hg14 (And.intro (fun hh=>hh) ((fun hh=>sF hh)))))
     refine oX hC0 (fun hC0 hc5=> ?_) (fun hC0 hc5=> ?_)
     ·refine oS tU ?_
      refine oV (pC (pS (pC ?_)))
      cases hC0
      exact⟨[],by rfl,by rfl,by rfl⟩
     ·refine p6 (oW ?_)
      obtain⟨hg15,hC0⟩:=oU hC0
      obtain⟨hg16,hC0⟩:=oU hC0
      refine oS tU ?_ (hp:=by exact And.intro hg15 (hg16))
      refine oV (pS (pC ?_))
      cases hC0
      exact⟨[],by rfl,by rfl,by rfl⟩
   ·refine oS tU ?_
    refine oX hC0 (fun hC0 hc6=> ?_) (fun hC0 hc6=> ?_)
    ·refine oS tU ?_
     refine p4 (pT ?_)
     obtain⟨aD,hy1,hC0⟩:=oY hC0
     refine rH 1 (fun s=>s=(fun x=>⟨[(0,(.val .str O,none)),(1,(.val (.int .i64) aA,none)),(4,(.val .ref (some (0,0)),none)),(11,(.val (.int .i64) x,none))],[(0,.cells CJ ((0:Int),(([]:List UInt8),((0:Int),((0:Int),())))) [])],1,135,0⟩) aD) ?_ ?_
     ·refine rG hy1 (fun x=>⟨[(0,(.val .str O,none)),(1,(.val (.int .i64) aA,none)),(4,(.val .ref (some (0,0)),none)),(11,(.val (.int .i64) x,none))],[(0,.cells CJ ((0:Int),(([]:List UInt8),((0:Int),((0:Int),())))) [])],1,135,0⟩) ⟨[0,1,4,11],[(0,0)]⟩ (by rfl) ?_
      intro aE w1 n1 hC1 hN1
      unfold IG at hC1
      dsimp only at hC1⊢
      refine p4 ?_
      obtain⟨hg17,hC1⟩:=oU hC1
      obtain⟨hg18,hC1⟩:=oU hC1
      obtain⟨hg19,hC1⟩:=oU hC1
      obtain⟨hg20,hC1⟩:=oU hC1
      obtain⟨hg21,hC1⟩:=oU hC1
      obtain⟨hg22,hC1⟩:=oU hC1
      refine oS tU ?_ (hp:=by exact And.intro (fun hh=>hh) (And.intro (fun hh=>hh) (And.intro hg17 (And.intro (fun hh=>hh) (And.intro (fun hh=>hh) (And.intro (fun hh=>hh) (And.intro (fun hh=>hh) (And.intro hg18 (And.intro (fun hh=>hh) (And.intro (fun hh=>hh) (And.intro (fun hh=>hh) (And.intro (fun hh=>hh) (And.intro hg19 (And.intro (fun hh=>hh) (And.intro (fun hh=>hh) (And.intro (fun hG hh=>CI hG hh) (And.intro (fun hh=>hh) (And.intro (fun hG hh=>y9 hG hh) (And.intro (fun hh=>hh) (And.intro (fun hh=>hh) (And.intro (fun hh=>hh) (And.intro hg20 (And.intro (fun hh=>hh) (And.intro (fun hh=>hh) (And.intro (fun hG hh=>y9 hG hh) (And.intro (fun hh=>hh) (And.intro (fun hh=>hh) (And.intro (fun hh=>hh) (And.intro hg21 (And.intro (fun hh=>hh) (And.intro (fun hh=>hh) (And.intro (fun hG hh=>y9 hG hh) (And.intro (fun hh=>hh) (And.intro (fun hh=>hh) (And.intro (fun hh=>hh) (And.intro hg22 (And.intro (fun hh=>hh) (And.intro (fun hh=>hh) (And.intro (fun hG hh=>y9 hG hh) ((fun hh=>pZ hh)))))))))))))))))))))))))))))))))))))))))
      refine oX hC1 (fun hC1 hc7=> ?_) (fun hC1 hc7=> ?_)
      ·refine p6 (oW (pT ?_))
       obtain⟨hg23,hC1⟩:=oU hC1
       refine pF tU ?_ (hp:=by exact hg23)
       refine pB ?_
       cases hC1
       exact qG ⟨⟨[0,1,4,11],[(0,0)]⟩,_,by rfl,hN1⟩
      ·refine qW (r7 (qZ ?_))
       cases hC1
       cases hN1
       exact qY ⟨⟨[0,1,4,11],[(0,0)]⟩,by rfl⟩
     ·rintro _ rfl
      dsimp only at hC0⊢
      refine rE (oW ?_)
      obtain⟨hg24,hC0⟩:=oU hC0
      refine oS tU ?_ (hp:=by exact hg24)
      refine oV (pS (pC ?_))
      cases hC0
      exact⟨[],by rfl,by rfl,by rfl⟩
    ·refine p6 (pB (oW ?_))
     refine oS tU ?_
     refine oV ?_
     cases hC0
     exact⟨[],by rfl,by rfl,by rfl⟩
attribute [irreducible] zS
def EY (O:Int):Option (List UInt8):=
 (IF ([O]:List Int)).bind fun Z=>
 some (Z)
section
variable (O:Int)
@[reducible] def a1r:List Slot:=[(.val (.int .i64) O,none)]
@[reducible] def a1s:List Blk:=[]
@[go_sem] def a1t:Ret:=⟨[((EY O)).isSome=true],[(.val .str (val (EY O)),none),(.val .bool ((decide (O≤(1114111:Int)))&&((decide (O<(55296:Int)))||(decide ((57343:Int)<O)))),none)],[]⟩
def aAv:List Slot→List Blk→Option Ret:=pM (V:=Int) (fun x=>a1r x) (fun x=>a1s) fun x=>a1t x
@[go_sem] theorem aL6:aAv (no_index (a1r O)) (no_index a1s)=some (a1t O):=pN (fun a0 b0 h1 h2=>by cases h1;cases h2;rfl) O
end
@[reducible,go_sem] def a1u:Nat×Sig:=(184,⟨[.v],aAv,[],[],none⟩)
theorem P4:Env Tryz.prog [AL] (pE [aAs]):=⟨⟨CP,trivial⟩,p5 aGN pP,pH⟩
theorem aAw:pI Tryz.prog a1u:=by
 refine pO P4 Tryz.func184 (c:=_) rfl (N:=19) (by kernel_rfl) (ts:=[(2,none),(3,none)]) rfl (fun _ _=>rfl) ?_
 intro O hs hrow
 dsimp only[a1r,a1s,a1t,pJ,enumH,pD,pG,pL,Nat.reduceAdd] at hs hrow⊢
 have hz:=hs
 obtain⟨z0,hC0⟩:=Option.isSome_iff_exists.1 hz
 try rw[pW hC0]
 clear hz hs
 unfold EY at hC0
 refine oS P4 ?_
 refine oS P4 ?_ (hp:=by exact And.intro (fun hh=>hh) (And.intro (fun hh=>hh) (And.intro (fun hh=>hh) (And.intro (fun hh=>hh) (And.intro (fun hG hh=>y9 hG hh) ((fun hh=>pZ hh)))))))
 obtain⟨Z,hv1,hw1,hC0⟩:=p8 hC0
 try simp only[go_sem] at hw1
 refine oS P4 ?_ (hp:=by exact(p7 hv1)) (h:=by simp only[go_sem,hw1];rfl)
 refine oV ?_
 cases hC0
 exact⟨[],by rfl,by rfl,by rfl⟩
attribute [irreducible] EY
end
end Go.Proofs.YtfchbnahjcdiiaaGreatDoor
namespace Go.Proofs.YtfchbnahjcdiiaaGreatDoor
open Vc
set_option maxRecDepth 100000
set_option maxHeartbeats 4000000
set_option linter.unusedSimpArgs false
set_option linter.unusedVariables false
noncomputable section
def sU (O:tD) (Z:Int) (aA:(List UInt8)):Option (Int×Int×Int×Int×(List UInt8)×Int×Int):=
 (zS O.1 O.2.1).bind fun aB=>
 if (!decide (O.2.2.2.1=(0:Int)))=true then
  some ((O.2.1,O.2.2.1,O.2.2.2.1,aB.1,aB.2.1,aB.2.2.1,aB.2.2.2))
 else
  if ((!decide (aB.1=Z))||((!decide (aA=([]:List UInt8)))&&(!decide (aB.2.1=aA))))=true then
   q6 (tQ O (aB.1,(aB.2.1,(aB.2.2.1,(aB.2.2.2,())))) (3:Int)) fun aC=>
   some ((O.2.1,aC.1,aC.2,aB.1,aB.2.1,aB.2.2.1,aB.2.2.2))
  else
   some ((aB.2.2.2,O.2.2.1,O.2.2.2.1,aB.1,aB.2.1,aB.2.2.1,aB.2.2.2))
section
variable (O:tD) (Z:Int) (aA:(List UInt8))
@[reducible] def a1v:List Slot:=[(.val rZ O,none),(.val (.int .i64) Z,none),(.val .str aA,none)]
@[reducible] def a1w:List Blk:=[]
@[go_sem] def a1x:Ret:=⟨[((sU O Z aA)).isSome=true],[(.val rZ (O.1,((val (sU O Z aA)).1,((val (sU O Z aA)).2.1,((val (sU O Z aA)).2.2.1,((O.2.2.2.2.1.1,(O.2.2.2.2.1.2.1,(O.2.2.2.2.1.2.2.1,(O.2.2.2.2.1.2.2.2.1,())))),(O.2.2.2.2.2.1,())))))),none),(.val CJ ((val (sU O Z aA)).2.2.2.1,((val (sU O Z aA)).2.2.2.2.1,((val (sU O Z aA)).2.2.2.2.2.1,((val (sU O Z aA)).2.2.2.2.2.2,())))),none)],[]⟩
def aAx:List Slot→List Blk→Option Ret:=pM (V:=(tD×Int×(List UInt8))) (fun x=>a1v x.1 x.2.1 x.2.2) (fun x=>a1w) fun x=>a1x x.1 x.2.1 x.2.2
@[go_sem] theorem aL7:aAx (no_index (a1v O Z aA)) (no_index a1w)=some (a1x O Z aA):=pN (fun⟨a0,a1,a2⟩ ⟨b0,b1,b2⟩ h1 h2=>by cases h1;cases h2;rfl) (O,Z,aA)
end
@[reducible,go_sem] def GJ:Nat×Sig:=(76,⟨[.v,.v,.v],aAx,[],[],none⟩)
theorem D7:Env Tryz.prog [s5,q7,vH,AF,AG] (pE [a1q,EA]):=⟨⟨sG,⟨q9,⟨wQ,⟨CL,⟨CM,trivial⟩⟩⟩⟩⟩,p5 aAu (p5 G4 pP),pH⟩
theorem IH:pI Tryz.prog GJ:=by
 refine pO D7 Tryz.func76 (c:=_) rfl (N:=42) (by kernel_rfl) (ts:=[(6,some 91),(7,some 134)]) rfl (fun _ _=>rfl) ?_
 intro⟨O,Z,aA⟩ hs hrow
 dsimp only[a1v,a1w,a1x,pJ,enumH,pD,pG,pL,Nat.reduceAdd] at hs hrow⊢
 have hz:=hs
 obtain⟨z0,hC0⟩:=Option.isSome_iff_exists.1 hz
 try rw[pW hC0]
 clear hz hs
 unfold sU at hC0
 refine oS D7 ?_
 obtain⟨aB,hv1,hw1,hC0⟩:=p8 hC0
 try simp only[go_sem] at hw1
 refine oS D7 ?_ (hp:=by exact(p7 hv1)) (h:=by simp only[go_sem,hw1];rfl)
 refine p4 ?_
 refine oS D7 ?_
 refine oX hC0 (fun hC0 hc1=> ?_) (fun hC0 hc1=> ?_)
 ·refine qK D7 ?_
  refine oV (pC ?_)
  cases hC0
  exact⟨[],by rfl,by rfl,by rfl⟩
 ·refine p6 (oW (p4 ?_))
  refine oS D7 ?_ (hp:=by exact And.intro (fun hh=>hh) (And.intro (fun hh=>hh) (And.intro (fun hh=>hh) (And.intro (fun hh=>hh) (And.intro (fun hh=>hh) (And.intro (fun hh=>hh) (And.intro (fun hG hh=>CI hG hh) ((fun hh=>sF hh)))))))))
  refine oX hC0 (fun hC0 hc2=> ?_) (fun hC0 hc2=> ?_)
  ·obtain⟨aC,hw_14,hC0⟩:=rI hC0
   try simp only[go_sem] at hw_14
   refine qK D7 ?_ (h:=by simp only[go_sem,hw_14];rfl)
   refine oV (pC ?_)
   cases hC0
   exact⟨[],by rfl,by rfl,by rfl⟩
  ·refine p6 (oW ?_)
   refine oS D7 ?_
   refine qK D7 ?_
   refine oV ?_
   cases hC0
   exact⟨[],by rfl,by rfl,by rfl⟩
attribute [irreducible] sU
def D8 (O:(List UInt8)):Option ((List UInt8)×Int):=
 if (decide ((List.length O:Int)<(2:Int)))=true then
  some ((([]:List UInt8),(0:Int)))
 else
  if 0≤(1:Int)∧(1:Int)<(List.length O:Int) then
   if (decide ((pA O (1:Int))=(110:Int)))=true then
    some ((([10]:List UInt8),(2:Int)))
   else
    if (decide ((pA O (1:Int))=(114:Int)))=true then
     some ((([13]:List UInt8),(2:Int)))
    else
     if (decide ((pA O (1:Int))=(116:Int)))=true then
      some ((([9]:List UInt8),(2:Int)))
     else
      if (decide ((pA O (1:Int))=(120:Int)))=true then
       if (decide ((4:Int)≤(List.length O:Int)))=true then
        if 0≤(2:Int)∧(2:Int)≤(4:Int)∧(4:Int)≤(List.length O:Int) then
         (BN (oZ O (2:Int) (4:Int)) (16:Int)).bind fun Z=>
         if (Z.2&&(decide (Z.1≤(127:Int))))=true then
          some (((rA ([(IntKind.wrap .u8 Z.1)]:List Int)),(4:Int)))
         else
          some ((([]:List UInt8),(0:Int)))
        else none
       else
        some ((([]:List UInt8),(0:Int)))
      else
       if (decide ((pA O (1:Int))=(117:Int)))=true then
        if (decide ((6:Int)≤(List.length O:Int)))=true then
         if 0≤(2:Int)∧(2:Int)≤(6:Int)∧(6:Int)≤(List.length O:Int) then
          (BN (oZ O (2:Int) (6:Int)) (16:Int)).bind fun aA=>
          if aA.2=true then
           (EY aA.1).bind fun aB=>
           if ((decide (aA.1≤(1114111:Int)))&&((decide (aA.1<(55296:Int)))||(decide ((57343:Int)<aA.1))))=true then
            some ((aB,(6:Int)))
           else
            some ((([]:List UInt8),(0:Int)))
          else
           some ((([]:List UInt8),(0:Int)))
         else none
        else
         some ((([]:List UInt8),(0:Int)))
       else
        if (decide ((0:Int)≤(rV ([92,34,61,58,35,33,123,125,32]:List UInt8) (pA O (1:Int)))))=true then
         if 0≤(1:Int)∧(1:Int)≤(2:Int)∧(2:Int)≤(List.length O:Int) then
          some (((oZ O (1:Int) (2:Int)),(2:Int)))
         else none
        else
         some ((([]:List UInt8),(0:Int)))
  else none
section
variable (O:(List UInt8))
@[reducible] def a1y:List Slot:=[(.val .str O,none)]
@[reducible] def a1z:List Blk:=[]
@[go_sem] def a1A:Ret:=⟨[((D8 O)).isSome=true],[(.val .str ((val (D8 O)).1),none),(.val (.int .i64) ((val (D8 O)).2),none)],[]⟩
def aAy:List Slot→List Blk→Option Ret:=pM (V:=(List UInt8)) (fun x=>a1y x) (fun x=>a1z) fun x=>a1A x
@[go_sem] theorem aL8:aAy (no_index (a1y O)) (no_index a1z)=some (a1A O):=pN (fun a0 b0 h1 h2=>by cases h1;cases h2;rfl) O
end
@[reducible,go_sem] def aAz:Nat×Sig:=(142,⟨[.v],aAy,[],[],none⟩)
theorem s8:Env Tryz.prog [s5,zP,q7,AE] (pE [XP,a1u,KS]):=⟨⟨sG,⟨BG,⟨q9,⟨CK,trivial⟩⟩⟩⟩,p5 a8X (p5 aAw (p5 OT pP)),pH⟩
theorem aGO:pI Tryz.prog aAz:=by
 refine pO s8 Tryz.func142 (c:=_) rfl (N:=67) (by kernel_rfl) (ts:=[(2,none),(3,none)]) rfl (fun _ _=>rfl) ?_
 intro O hs hrow
 dsimp only[a1y,a1z,a1A,pJ,enumH,pD,pG,pL,Nat.reduceAdd] at hs hrow⊢
 have hz:=hs
 obtain⟨z0,hC0⟩:=Option.isSome_iff_exists.1 hz
 try rw[pW hC0]
 clear hz hs
 unfold D8 at hC0
 refine oS s8 ?_
 refine p4 ?_
 refine oS s8 ?_
 refine oX hC0 (fun hC0 hc1=> ?_) (fun hC0 hc1=> ?_)
 ·refine oS s8 ?_
  refine oV (pC ?_)
  cases hC0
  exact⟨[],by rfl,by rfl,by rfl⟩
 ·refine p6 (oW (p4 ?_))
  obtain⟨hg1,hC0⟩:=oU hC0
  refine oS s8 ?_ (hp:=by exact hg1)
  refine oS s8 ?_
  refine pT ?_
  refine oS s8 ?_
  refine oX hC0 (fun hC0 hc2=> ?_) (fun hC0 hc2=> ?_)
  ·refine oS s8 ?_
   refine oV (pS (pC ?_))
   cases hC0
   exact⟨[],by rfl,by rfl,by rfl⟩
  ·refine oS s8 ?_
   refine oX hC0 (fun hC0 hc3=> ?_) (fun hC0 hc3=> ?_)
   ·refine oS s8 ?_
    refine oV (pS (pC ?_))
    cases hC0
    exact⟨[],by rfl,by rfl,by rfl⟩
   ·refine oS s8 ?_
    refine oX hC0 (fun hC0 hc4=> ?_) (fun hC0 hc4=> ?_)
    ·refine oS s8 ?_
     refine oV (pS (pC ?_))
     cases hC0
     exact⟨[],by rfl,by rfl,by rfl⟩
    ·refine oS s8 ?_
     refine oX hC0 (fun hC0 hc5=> ?_) (fun hC0 hc5=> ?_)
     ·refine oS s8 ?_
      refine oX hC0 (fun hC0 hc6=> ?_) (fun hC0 hc6=> ?_)
      ·obtain⟨hg2,hC0⟩:=oU hC0
       obtain⟨Z,hv3,hw3,hC0⟩:=p8 hC0
       try simp only[go_sem] at hw3
       refine oS s8 ?_ (hp:=by exact And.intro hg2 ((p7 hv3))) (h:=by simp only[go_sem,hw3];rfl)
       refine oS s8 ?_ (hp:=by exact And.intro (fun hh=>hh) ((fun hh=>pZ hh)))
       refine oX hC0 (fun hC0 hc7=> ?_) (fun hC0 hc7=> ?_)
       ·refine oS s8 ?_
        refine oV (pS (pC ?_))
        cases hC0
        exact⟨[],by rfl,by rfl,by rfl⟩
       ·refine p6 (pB (oW ?_))
        refine oS s8 ?_
        refine oV ?_
        cases hC0
        exact⟨[],by rfl,by rfl,by rfl⟩
      ·refine p6 (pB (oW ?_))
       refine oS s8 ?_
       refine oV ?_
       cases hC0
       exact⟨[],by rfl,by rfl,by rfl⟩
     ·refine oS s8 ?_
      refine oX hC0 (fun hC0 hc8=> ?_) (fun hC0 hc8=> ?_)
      ·refine oS s8 ?_
       refine oX hC0 (fun hC0 hc9=> ?_) (fun hC0 hc9=> ?_)
       ·obtain⟨hg4,hC0⟩:=oU hC0
        obtain⟨aA,hv5,hw5,hC0⟩:=p8 hC0
        try simp only[go_sem] at hw5
        refine oS s8 ?_ (hp:=by exact And.intro hg4 ((p7 hv5))) (h:=by simp only[go_sem,hw5];rfl)
        refine oS s8 ?_
        refine oX hC0 (fun hC0 hc10=> ?_) (fun hC0 hc10=> ?_)
        ·obtain⟨aB,hv6,hw6,hC0⟩:=p8 hC0
         try simp only[go_sem] at hw6
         refine oS s8 ?_ (hp:=by exact(p7 hv6)) (h:=by simp only[go_sem,hw6];rfl)
         refine oS s8 ?_
         refine oX hC0 (fun hC0 hc11=> ?_) (fun hC0 hc11=> ?_)
         ·refine oS s8 ?_
          refine oV (pS (pC ?_))
          cases hC0
          exact⟨[],by rfl,by rfl,by rfl⟩
         ·refine p6 (pB (oW ?_))
          refine oS s8 ?_
          refine oV ?_
          cases hC0
          exact⟨[],by rfl,by rfl,by rfl⟩
        ·refine p6 (pB (oW ?_))
         refine oS s8 ?_
         refine oV ?_
         cases hC0
         exact⟨[],by rfl,by rfl,by rfl⟩
       ·refine p6 (pB (oW ?_))
        refine oS s8 ?_
        refine oV ?_
        cases hC0
        exact⟨[],by rfl,by rfl,by rfl⟩
      ·refine oS s8 ?_
       refine oX hC0 (fun hC0 hc12=> ?_) (fun hC0 hc12=> ?_)
       ·obtain⟨hg7,hC0⟩:=oU hC0
        refine oS s8 ?_ (hp:=by exact hg7)
        refine oV (pS (pC ?_))
        cases hC0
        exact⟨[],by rfl,by rfl,by rfl⟩
       ·refine p6 (pB (oW ?_))
        refine oS s8 ?_
        refine oV ?_
        cases hC0
        exact⟨[],by rfl,by rfl,by rfl⟩
attribute [irreducible] D8
def II (O:(List UInt8)):Option ((List UInt8)×Int):=
 if (decide ((rV O (59:Int))<(0:Int)))=true then
  some ((([]:List UInt8),(0:Int)))
 else
  if 0≤(1:Int)∧(1:Int)≤(rV O (59:Int))∧(rV O (59:Int))≤(List.length O:Int) then
   if (decide ((oZ O (1:Int) (rV O (59:Int)))=([97,109,112]:List UInt8)))=true then
    if oT ((rV O (59:Int))+(1:Int)) then
     some ((([38]:List UInt8),((rV O (59:Int))+(1:Int))))
    else none
   else
    if (decide ((oZ O (1:Int) (rV O (59:Int)))=([108,116]:List UInt8)))=true then
     if oT ((rV O (59:Int))+(1:Int)) then
      some ((([60]:List UInt8),((rV O (59:Int))+(1:Int))))
     else none
    else
     if (decide ((oZ O (1:Int) (rV O (59:Int)))=([103,116]:List UInt8)))=true then
      if oT ((rV O (59:Int))+(1:Int)) then
       some ((([62]:List UInt8),((rV O (59:Int))+(1:Int))))
      else none
     else
      if (decide ((oZ O (1:Int) (rV O (59:Int)))=([113,117,111,116]:List UInt8)))=true then
       if oT ((rV O (59:Int))+(1:Int)) then
        some ((([34]:List UInt8),((rV O (59:Int))+(1:Int))))
       else none
      else
       if (decide ((oZ O (1:Int) (rV O (59:Int)))=([97,112,111,115]:List UInt8)))=true then
        if oT ((rV O (59:Int))+(1:Int)) then
         some ((([39]:List UInt8),((rV O (59:Int))+(1:Int))))
        else none
       else
        (GE (oZ O (1:Int) (rV O (59:Int))) ([35]:List UInt8)).bind fun Z=>
        if (!Z.2)=true then
         some ((([]:List UInt8),(0:Int)))
        else
         (GE Z.1 ([120]:List UInt8)).bind fun aA=>
         qD (σ:=((List UInt8)×Int×Int)) (
           if aA.2=true then
            some ((aA.1,(16:Int),(6:Int)))
           else
            some ((Z.1,(10:Int),(7:Int)))
          ) fun(aB,aC,aD)=>
         (BN aB aC).bind fun aE=>
         if ((!aE.2)||(decide (aD<(List.length aB:Int))))=true then
          some ((([]:List UInt8),(0:Int)))
         else
          (EY aE.1).bind fun aF=>
          if (!((decide (aE.1≤(1114111:Int)))&&((decide (aE.1<(55296:Int)))||(decide ((57343:Int)<aE.1)))))=true then
           some ((([]:List UInt8),(0:Int)))
          else
           if oT ((rV O (59:Int))+(1:Int)) then
            some ((aF,((rV O (59:Int))+(1:Int))))
           else none
  else none
section
variable (O:(List UInt8))
@[reducible] def a1B:List Slot:=[(.val .str O,none)]
@[reducible] def a1C:List Blk:=[]
@[go_sem] def a1D:Ret:=⟨[((II O)).isSome=true],[(.val .str ((val (II O)).1),none),(.val (.int .i64) ((val (II O)).2),none)],[]⟩
def aAA:List Slot→List Blk→Option Ret:=pM (V:=(List UInt8)) (fun x=>a1B x) (fun x=>a1C) fun x=>a1D x
@[go_sem] theorem aL9:aAA (no_index (a1B O)) (no_index a1C)=some (a1D O):=pN (fun a0 b0 h1 h2=>by cases h1;cases h2;rfl) O
end
@[reducible,go_sem] def aAB:Nat×Sig:=(143,⟨[.v],aAA,[],[],none⟩)
theorem sD:Env Tryz.prog [q7] (pE [KS,a9H,XP,a1u]):=⟨⟨q9,trivial⟩,p5 OT (p5 aGu (p5 a8X (p5 aAw pP))),pH⟩
theorem aGP:pI Tryz.prog aAB:=by
 refine pO sD Tryz.func143 (c:=_) rfl (N:=80) (by kernel_rfl) (ts:=[(2,none),(3,none)]) rfl (fun _ _=>rfl) ?_
 intro O hs hrow
 dsimp only[a1B,a1C,a1D,pJ,enumH,pD,pG,pL,Nat.reduceAdd] at hs hrow⊢
 have hz:=hs
 obtain⟨z0,hC0⟩:=Option.isSome_iff_exists.1 hz
 try rw[pW hC0]
 clear hz hs
 unfold II at hC0
 refine oS sD ?_
 refine oS sD ?_
 refine p4 ?_
 refine oS sD ?_
 refine oX hC0 (fun hC0 hc1=> ?_) (fun hC0 hc1=> ?_)
 ·refine oS sD ?_
  refine oV (pC ?_)
  cases hC0
  exact⟨[],by rfl,by rfl,by rfl⟩
 ·refine p6 (oW ?_)
  obtain⟨hg1,hC0⟩:=oU hC0
  refine oS sD ?_ (hp:=by exact hg1)
  refine p4 ?_
  refine oS sD ?_
  refine pT ?_
  refine oS sD ?_
  refine oX hC0 (fun hC0 hc2=> ?_) (fun hC0 hc2=> ?_)
  ·obtain⟨hg2,hC0⟩:=oU hC0
   refine oS sD ?_ (hp:=by exact hg2)
   refine oV (pS (pC ?_))
   cases hC0
   exact⟨[],by rfl,by rfl,by rfl⟩
  ·refine oS sD ?_
   refine oX hC0 (fun hC0 hc3=> ?_) (fun hC0 hc3=> ?_)
   ·obtain⟨hg3,hC0⟩:=oU hC0
    refine oS sD ?_ (hp:=by exact hg3)
    refine oV (pS (pC ?_))
    cases hC0
    exact⟨[],by rfl,by rfl,by rfl⟩
   ·refine oS sD ?_
    refine oX hC0 (fun hC0 hc4=> ?_) (fun hC0 hc4=> ?_)
    ·obtain⟨hg4,hC0⟩:=oU hC0
     refine oS sD ?_ (hp:=by exact hg4)
     refine oV (pS (pC ?_))
     cases hC0
     exact⟨[],by rfl,by rfl,by rfl⟩
    ·refine oS sD ?_
     refine oX hC0 (fun hC0 hc5=> ?_) (fun hC0 hc5=> ?_)
     ·obtain⟨hg5,hC0⟩:=oU hC0
      refine oS sD ?_ (hp:=by exact hg5)
      refine oV (pS (pC ?_))
      cases hC0
      exact⟨[],by rfl,by rfl,by rfl⟩
     ·refine oS sD ?_
      refine oX hC0 (fun hC0 hc6=> ?_) (fun hC0 hc6=> ?_)
      ·obtain⟨hg6,hC0⟩:=oU hC0
       refine oS sD ?_ (hp:=by exact hg6)
       refine oV (pS (pC ?_))
       cases hC0
       exact⟨[],by rfl,by rfl,by rfl⟩
      ·refine p6 (pB (oW ?_))
       obtain⟨Z,hv7,hw7,hC0⟩:=p8 hC0
       try simp only[go_sem] at hw7
       refine oS sD ?_ (hp:=by exact(p7 hv7)) (h:=by simp only[go_sem,hw7];rfl)
       refine p4 ?_
       refine oS sD ?_
       refine oX hC0 (fun hC0 hc7=> ?_) (fun hC0 hc7=> ?_)
       ·refine oS sD ?_
        refine oV (pC ?_)
        cases hC0
        exact⟨[],by rfl,by rfl,by rfl⟩
       ·refine p6 (oW ?_)
        refine oS sD ?_
        refine p4 ?_
        obtain⟨aA,hv8,hw8,hC0⟩:=p8 hC0
        try simp only[go_sem] at hw8
        refine oS sD ?_ (hp:=by exact(p7 hv8)) (h:=by simp only[go_sem,hw8];rfl)
        refine oS sD ?_
        obtain⟨y1,hC1,hC0⟩:=oY hC0
        refine y8 (fun s=>s=(fun x=>⟨[(4,(.val (.int .i64) (rV O (59:Int)),none)),(6,(.val .str x.1,none)),(8,(.val (.int .i64) x.2.1,none)),(9,(.val (.int .i64) x.2.2,none))],[],0,80,0⟩) y1) ?_ ?_
        ·refine oX hC1 (fun hC1 hc8=> ?_) (fun hC1 hc8=> ?_)
         ·refine pF sD ?_
          cases hC1
          exact rK ⟨⟨[4,6,8,9],[]⟩,by rfl⟩
         ·refine p6 ?_
          cases hC1
          exact rK ⟨⟨[4,6,8,9],[]⟩,by rfl⟩
        ·rintro _ rfl
         obtain⟨aB,aC,aD⟩:=y1
         dsimp only at hC0⊢
         refine oW ?_
         obtain⟨aE,hv9,hw9,hC0⟩:=p8 hC0
         try simp only[go_sem] at hw9
         refine oS sD ?_ (hp:=by exact(p7 hv9)) (h:=by simp only[go_sem,hw9];rfl)
         refine p4 ?_
         refine oS sD ?_ (hp:=by exact And.intro (fun hh=>hh) (And.intro (fun hh=>hh) (And.intro (fun hh=>hh) ((fun hh=>sF hh)))))
         refine oX hC0 (fun hC0 hc9=> ?_) (fun hC0 hc9=> ?_)
         ·refine oS sD ?_
          refine oV (pC ?_)
          cases hC0
          exact⟨[],by rfl,by rfl,by rfl⟩
         ·refine p6 (oW ?_)
          obtain⟨aF,hv10,hw10,hC0⟩:=p8 hC0
          try simp only[go_sem] at hw10
          refine oS sD ?_ (hp:=by exact(p7 hv10)) (h:=by simp only[go_sem,hw10];rfl)
          refine p4 ?_
          refine oS sD ?_
          refine oX hC0 (fun hC0 hc10=> ?_) (fun hC0 hc10=> ?_)
          ·refine oS sD ?_
           refine oV (pC ?_)
           cases hC0
           exact⟨[],by rfl,by rfl,by rfl⟩
          ·refine p6 (oW ?_)
           obtain⟨hg11,hC0⟩:=oU hC0
           refine oS sD ?_ (hp:=by exact hg11)
           refine oV ?_
           cases hC0
           exact⟨[],by rfl,by rfl,by rfl⟩
attribute [irreducible] II
end
end Go.Proofs.YtfchbnahjcdiiaaGreatDoor
namespace Go.Proofs.YtfchbnahjcdiiaaGreatDoor
open Vc
set_option maxRecDepth 100000
set_option maxHeartbeats 4000000
set_option linter.unusedSimpArgs false
set_option linter.unusedVariables false
noncomputable section
def BT (O:tD) (Z:pX):Option (Int×Int×Int×(List p9)):=
 (sU O (1:Int) ([]:List UInt8)).bind fun aA=>
 if (!decide (aA.2.2.1=(0:Int)))=true then
  some ((aA.1,aA.2.1,aA.2.2.1,Z.2.2.2.2.2.2.1))
 else
  (EE Z.2.2.2.2.2.2.1 aA.2.2.2.2.1).bind fun aB=>
  (EP aA.2.2.2.2.1).bind fun aC=>
  if (!aC)=true then
   q6 (tQ (O.1,(aA.1,(aA.2.1,(aA.2.2.1,((O.2.2.2.2.1.1,(O.2.2.2.2.1.2.1,(O.2.2.2.2.1.2.2.1,(O.2.2.2.2.1.2.2.2.1,())))),(O.2.2.2.2.2.1,())))))) (aA.2.2.2.1,(aA.2.2.2.2.1,(aA.2.2.2.2.2.1,(aA.2.2.2.2.2.2,())))) (3:Int)) fun aD=>
   some ((aA.1,aD.1,aD.2,Z.2.2.2.2.2.2.1))
  else
   if aB.2=true then
    q6 (tQ (O.1,(aA.1,(aA.2.1,(aA.2.2.1,((O.2.2.2.2.1.1,(O.2.2.2.2.1.2.1,(O.2.2.2.2.1.2.2.1,(O.2.2.2.2.1.2.2.2.1,())))),(O.2.2.2.2.2.1,())))))) (aA.2.2.2.1,(aA.2.2.2.2.1,(aA.2.2.2.2.2.1,(aA.2.2.2.2.2.2,())))) (9:Int)) fun aE=>
    some ((aA.1,aE.1,aE.2,Z.2.2.2.2.2.2.1))
   else
    if (decide ((20:Int)≤(List.length Z.2.2.2.2.2.2.1:Int)))=true then
     q6 (tQ (O.1,(aA.1,(aA.2.1,(aA.2.2.1,((O.2.2.2.2.1.1,(O.2.2.2.2.1.2.1,(O.2.2.2.2.1.2.2.1,(O.2.2.2.2.1.2.2.2.1,())))),(O.2.2.2.2.2.1,())))))) (aA.2.2.2.1,(aA.2.2.2.2.1,(aA.2.2.2.2.2.1,(aA.2.2.2.2.2.2,())))) (6:Int)) fun aF=>
     some ((aA.1,aF.1,aF.2,Z.2.2.2.2.2.2.1))
    else
     (sU (O.1,(aA.1,(aA.2.1,(aA.2.2.1,((O.2.2.2.2.1.1,(O.2.2.2.2.1.2.1,(O.2.2.2.2.1.2.2.1,(O.2.2.2.2.1.2.2.2.1,())))),(O.2.2.2.2.2.1,())))))) (1:Int) ([]:List UInt8)).bind fun aG=>
     (EG Z.2.2.2.2.2.2.1 aA.2.2.2.2.1 aG.2.2.2.2.1).bind fun aH=>
     some ((aG.1,aG.2.1,aG.2.2.1,aH))
section
variable (O:tD) (Z:pX)
@[reducible] def a1E:List Slot:=[(.val rZ O,none),(.val uJ Z,none)]
@[reducible] def a1F:List Blk:=[]
@[go_sem] def a1G:Ret:=⟨[((BT O Z)).isSome=true],[(.val rZ (O.1,((val (BT O Z)).1,((val (BT O Z)).2.1,((val (BT O Z)).2.2.1,((O.2.2.2.2.1.1,(O.2.2.2.2.1.2.1,(O.2.2.2.2.1.2.2.1,(O.2.2.2.2.1.2.2.2.1,())))),(O.2.2.2.2.2.1,())))))),none),(.val uJ (Z.1,(Z.2.1,(Z.2.2.1,(Z.2.2.2.1,(Z.2.2.2.2.1,(Z.2.2.2.2.2.1,((val (BT O Z)).2.2.2,()))))))),none)],[]⟩
def aAC:List Slot→List Blk→Option Ret:=pM (V:=(tD×pX)) (fun x=>a1E x.1 x.2) (fun x=>a1F) fun x=>a1G x.1 x.2
@[go_sem] theorem aMa:aAC (no_index (a1E O Z)) (no_index a1F)=some (a1G O Z):=pN (fun⟨a0,a1⟩ ⟨b0,b1⟩ h1 h2=>by cases h1;cases h2;rfl) (O,Z)
end
@[reducible,go_sem] def aAD:Nat×Sig:=(154,⟨[.v,.v],aAC,[],[],none⟩)
theorem xM:Env Tryz.prog [q7,AJ,vH,yU,AF,AG] (pE [GJ,a8a,a0g,EA,a8c]):=⟨⟨q9,⟨CO,⟨wQ,⟨AI,⟨CL,⟨CM,trivial⟩⟩⟩⟩⟩⟩,p5 IH (p5 aF1 (p5 a9Q (p5 G4 (p5 aF2 pP)))),pH⟩
theorem aGQ:pI Tryz.prog aAD:=by
 refine pO xM Tryz.func154 (c:=_) rfl (N:=67) (by kernel_rfl) (ts:=[(4,some 91),(5,some 52)]) rfl (fun _ _=>rfl) ?_
 intro⟨O,Z⟩ hs hrow
 dsimp only[a1E,a1F,a1G,pJ,enumH,pD,pG,pL,Nat.reduceAdd] at hs hrow⊢
 have hz:=hs
 obtain⟨z0,hC0⟩:=Option.isSome_iff_exists.1 hz
 try rw[pW hC0]
 clear hz hs
 unfold BT at hC0
 refine oS xM ?_
 obtain⟨aA,hv1,hw1,hC0⟩:=p8 hC0
 try simp only[go_sem] at hw1
 refine oS xM ?_ (hp:=by exact(p7 hv1)) (h:=by simp only[go_sem,hw1];rfl)
 refine p4 ?_
 refine oS xM ?_
 refine oX hC0 (fun hC0 hc1=> ?_) (fun hC0 hc1=> ?_)
 ·refine qK xM ?_
  refine oV (pC ?_)
  cases hC0
  exact⟨[],by rfl,by rfl,by rfl⟩
 ·refine p6 (oW ?_)
  obtain⟨aB,hv2,hw2,hC0⟩:=p8 hC0
  try simp only[go_sem] at hw2
  refine oS xM ?_ (hp:=by exact(p7 hv2)) (h:=by simp only[go_sem,hw2];rfl)
  refine p4 (pT ?_)
  obtain⟨aC,hv3,hw3,hC0⟩:=p8 hC0
  try simp only[go_sem] at hw3
  refine oS xM ?_ (hp:=by exact(p7 hv3)) (h:=by simp only[go_sem,hw3];rfl)
  refine oX hC0 (fun hC0 hc2=> ?_) (fun hC0 hc2=> ?_)
  ·obtain⟨aD,hw_35,hC0⟩:=rI hC0
   try simp only[go_sem] at hw_35
   refine qK xM ?_ (h:=by simp only[go_sem,hw_35];rfl)
   refine oV (pS (pC ?_))
   cases hC0
   exact⟨[],by rfl,by rfl,by rfl⟩
  ·refine oS xM ?_
   refine oX hC0 (fun hC0 hc3=> ?_) (fun hC0 hc3=> ?_)
   ·obtain⟨aE,hw_38,hC0⟩:=rI hC0
    try simp only[go_sem] at hw_38
    refine qK xM ?_ (h:=by simp only[go_sem,hw_38];rfl)
    refine oV (pS (pC ?_))
    cases hC0
    exact⟨[],by rfl,by rfl,by rfl⟩
   ·refine oS xM ?_
    refine oX hC0 (fun hC0 hc4=> ?_) (fun hC0 hc4=> ?_)
    ·obtain⟨aF,hw_40,hC0⟩:=rI hC0
     try simp only[go_sem] at hw_40
     refine qK xM ?_ (h:=by simp only[go_sem,hw_40];rfl)
     refine oV (pS (pC ?_))
     cases hC0
     exact⟨[],by rfl,by rfl,by rfl⟩
    ·refine p6 (pB (oW ?_))
     obtain⟨aG,hv4,hw4,hC0⟩:=p8 hC0
     try simp only[go_sem] at hw4
     refine oS xM ?_ (hp:=by exact(p7 hv4)) (h:=by simp only[go_sem,hw4];rfl)
     obtain⟨aH,hv5,hw5,hC0⟩:=p8 hC0
     try simp only[go_sem] at hw5
     refine oS xM ?_ (hp:=by exact(p7 hv5)) (h:=by simp only[go_sem,hw5];rfl)
     refine qK xM ?_
     refine oV ?_
     cases hC0
     exact⟨[],by rfl,by rfl,by rfl⟩
attribute [irreducible] BT
def LK (O:pX) (Z:(Int×Int×Int×Int×(List UInt8)×Int×Int)):Int→Option (Int⊕Int):=fun aA=>
 if (((decide (aA<(List.length O.2.2.2.2.1:Int)))==true)=true→0≤aA∧aA<(List.length O.2.2.2.2.1:Int)) then
  if ((decide (aA<(List.length O.2.2.2.2.1:Int)))&&(Op.bytesLess (pY .str O.2.2.2.2.1 aA) Z.2.2.2.2.1))=true then
   if oT (aA+(1:Int)) then
    some (.inl (aA+(1:Int)))
   else none
  else
   some (.inr aA)
 else none
def BU (O:tD) (Z:pX):Option (Int×Int×Int×(List (List UInt8))):=
 (sU O (2:Int) ([]:List UInt8)).bind fun aA=>
 if (!decide (aA.2.2.1=(0:Int)))=true then
  some ((aA.1,aA.2.1,aA.2.2.1,Z.2.2.2.2.1))
 else
  (EP aA.2.2.2.2.1).bind fun aB=>
  if (!aB)=true then
   q6 (tQ (O.1,(aA.1,(aA.2.1,(aA.2.2.1,((O.2.2.2.2.1.1,(O.2.2.2.2.1.2.1,(O.2.2.2.2.1.2.2.1,(O.2.2.2.2.1.2.2.2.1,())))),(O.2.2.2.2.2.1,())))))) (aA.2.2.2.1,(aA.2.2.2.2.1,(aA.2.2.2.2.2.1,(aA.2.2.2.2.2.2,())))) (3:Int)) fun aC=>
   some ((aA.1,aC.1,aC.2,Z.2.2.2.2.1))
  else
   (G8 Z.2.2.2.2.1 aA.2.2.2.2.1).bind fun aD=>
   if aD=true then
    q6 (tQ (O.1,(aA.1,(aA.2.1,(aA.2.2.1,((O.2.2.2.2.1.1,(O.2.2.2.2.1.2.1,(O.2.2.2.2.1.2.2.1,(O.2.2.2.2.1.2.2.2.1,())))),(O.2.2.2.2.2.1,())))))) (aA.2.2.2.1,(aA.2.2.2.2.1,(aA.2.2.2.2.2.1,(aA.2.2.2.2.2.2,())))) (9:Int)) fun aE=>
    some ((aA.1,aE.1,aE.2,Z.2.2.2.2.1))
   else
    if (decide ((20:Int)≤(List.length Z.2.2.2.2.1:Int)))=true then
     q6 (tQ (O.1,(aA.1,(aA.2.1,(aA.2.2.1,((O.2.2.2.2.1.1,(O.2.2.2.2.1.2.1,(O.2.2.2.2.1.2.2.1,(O.2.2.2.2.1.2.2.2.1,())))),(O.2.2.2.2.2.1,())))))) (aA.2.2.2.1,(aA.2.2.2.2.1,(aA.2.2.2.2.2.1,(aA.2.2.2.2.2.2,())))) (6:Int)) fun aF=>
     some ((aA.1,aF.1,aF.2,Z.2.2.2.2.1))
    else
     qD (pR (LK Z aA) (0:Int)) fun aG=>
     if 0≤(0:Int)∧(0:Int)≤aG∧aG≤(List.length Z.2.2.2.2.1:Int) then
      if (List.length ([]:List (List UInt8))+List.length (oZ Z.2.2.2.2.1 (0:Int) aG))*16≤140737488355328 then
       if (List.length (([]:List (List UInt8))++(oZ Z.2.2.2.2.1 (0:Int) aG))+List.length ([aA.2.2.2.2.1]:List (List UInt8)))*16≤140737488355328 then
        if 0≤aG∧aG≤(List.length Z.2.2.2.2.1:Int)∧(List.length Z.2.2.2.2.1:Int)≤(List.length Z.2.2.2.2.1:Int) then
         if (List.length ((([]:List (List UInt8))++(oZ Z.2.2.2.2.1 (0:Int) aG))++([aA.2.2.2.2.1]:List (List UInt8)))+List.length (oZ Z.2.2.2.2.1 aG (List.length Z.2.2.2.2.1:Int)))*16≤140737488355328 then
          some ((aA.1,aA.2.1,aA.2.2.1,(((([]:List (List UInt8))++(oZ Z.2.2.2.2.1 (0:Int) aG))++([aA.2.2.2.2.1]:List (List UInt8)))++(oZ Z.2.2.2.2.1 aG (List.length Z.2.2.2.2.1:Int)))))
         else none
        else none
       else none
      else none
     else none
section
variable (O:tD) (Z:pX)
@[reducible] def a1H:List Slot:=[(.val rZ O,none),(.val uJ Z,none)]
@[reducible] def a1I:List Blk:=[]
@[go_sem] def a1J:Ret:=⟨[((BU O Z)).isSome=true],[(.val rZ (O.1,((val (BU O Z)).1,((val (BU O Z)).2.1,((val (BU O Z)).2.2.1,((O.2.2.2.2.1.1,(O.2.2.2.2.1.2.1,(O.2.2.2.2.1.2.2.1,(O.2.2.2.2.1.2.2.2.1,())))),(O.2.2.2.2.2.1,())))))),none),(.val uJ (Z.1,(Z.2.1,(Z.2.2.1,(Z.2.2.2.1,((val (BU O Z)).2.2.2,(Z.2.2.2.2.2.1,(Z.2.2.2.2.2.2.1,()))))))),none)],[]⟩
def aAE:List Slot→List Blk→Option Ret:=pM (V:=(tD×pX)) (fun x=>a1H x.1 x.2) (fun x=>a1I) fun x=>a1J x.1 x.2
@[go_sem] theorem aMb:aAE (no_index (a1H O Z)) (no_index a1I)=some (a1J O Z):=pN (fun⟨a0,a1⟩ ⟨b0,b1⟩ h1 h2=>by cases h1;cases h2;rfl) (O,Z)
end
@[reducible,go_sem] def aAF:Nat×Sig:=(155,⟨[.v,.v],aAE,[],[],none⟩)
theorem uX:Env Tryz.prog [q7,uK,vH,yU,AF,AG] (pE [GJ,a0g,EA,a8Z]):=⟨⟨q9,⟨vG,⟨wQ,⟨AI,⟨CL,⟨CM,trivial⟩⟩⟩⟩⟩⟩,p5 IH (p5 a9Q (p5 G4 (p5 aGc pP))),pH⟩
theorem aGR:pI Tryz.prog aAF:=by
 refine pO uX Tryz.func155 (c:=_) rfl (N:=77) (by kernel_rfl) (ts:=[(4,some 91),(5,some 52)]) rfl (fun _ _=>rfl) ?_
 intro⟨O,Z⟩ hs hrow
 dsimp only[a1H,a1I,a1J,pJ,enumH,pD,pG,pL,Nat.reduceAdd] at hs hrow⊢
 have hz:=hs
 obtain⟨z0,hC0⟩:=Option.isSome_iff_exists.1 hz
 try rw[pW hC0]
 clear hz hs
 unfold BU at hC0
 refine oS uX ?_
 obtain⟨aA,hv1,hw1,hC0⟩:=p8 hC0
 try simp only[go_sem] at hw1
 refine oS uX ?_ (hp:=by exact(p7 hv1)) (h:=by simp only[go_sem,hw1];rfl)
 refine p4 (pT ?_)
 refine oS uX ?_
 refine oX hC0 (fun hC0 hc1=> ?_) (fun hC0 hc1=> ?_)
 ·refine p6 (pB (oW ?_))
  refine qK uX ?_
  refine oV ?_
  cases hC0
  exact⟨[],by rfl,by rfl,by rfl⟩
 ·obtain⟨aB,hv2,hw2,hC0⟩:=p8 hC0
  try simp only[go_sem] at hw2
  refine oS uX ?_ (hp:=by exact(p7 hv2)) (h:=by simp only[go_sem,hw2];rfl)
  refine oX hC0 (fun hC0 hc2=> ?_) (fun hC0 hc2=> ?_)
  ·obtain⟨aC,hw_23,hC0⟩:=rI hC0
   try simp only[go_sem] at hw_23
   refine pF uX ?_ (h:=by simp only[go_sem,hw_23];rfl)
   refine pB (oW ?_)
   refine qK uX ?_
   refine oV ?_
   cases hC0
   exact⟨[],by rfl,by rfl,by rfl⟩
  ·obtain⟨aD,hv3,hw3,hC0⟩:=p8 hC0
   try simp only[go_sem] at hw3
   refine oS uX ?_ (hp:=by exact(p7 hv3)) (h:=by simp only[go_sem,hw3];rfl)
   refine oX hC0 (fun hC0 hc3=> ?_) (fun hC0 hc3=> ?_)
   ·obtain⟨aE,hw_25,hC0⟩:=rI hC0
    try simp only[go_sem] at hw_25
    refine pF uX ?_ (h:=by simp only[go_sem,hw_25];rfl)
    refine pB (oW ?_)
    refine qK uX ?_
    refine oV ?_
    cases hC0
    exact⟨[],by rfl,by rfl,by rfl⟩
   ·refine oS uX ?_
    refine oX hC0 (fun hC0 hc4=> ?_) (fun hC0 hc4=> ?_)
    ·obtain⟨aF,hw_26,hC0⟩:=rI hC0
     try simp only[go_sem] at hw_26
     refine pF uX ?_ (h:=by simp only[go_sem,hw_26];rfl)
     refine pB (oW ?_)
     refine qK uX ?_
     refine oV ?_
     cases hC0
     exact⟨[],by rfl,by rfl,by rfl⟩
    ·refine oS uX ?_
     refine p4 (pT ?_)
     obtain⟨aG,hy1,hC0⟩:=oY hC0
     refine rH 1 (fun s=>s=(fun x=>⟨[(2,(.val .ref (some (0,0)),none)),(3,(.val .ref (some (1,0)),none)),(4,(.val .ref (some (2,0)),none)),(5,(.val .ref (some (3,0)),none)),(6,(.val .ref (some (4,0)),none)),(7,(.val (.int .i64) x,none))],[(0,.cells rZ (O.1,(aA.1,(aA.2.1,(aA.2.2.1,((O.2.2.2.2.1.1,(O.2.2.2.2.1.2.1,(O.2.2.2.2.1.2.2.1,(O.2.2.2.2.1.2.2.2.1,())))),(O.2.2.2.2.2.1,())))))) []),(1,.cells uJ Z []),(2,.cells rZ (([]:List UInt8),((0:Int),((0:Int),((0:Int),((([]:List UInt8),(([]:List (List UInt8)),(([]:List p9),(([]:List pX),())))),(([]:List Int),())))))) [(5,5),(6,6),(7,7),(8,8)]),(3,.cells uJ (([]:List UInt8),(([]:List UInt8),(([]:List UInt8),(([]:List (List UInt8)),(([]:List (List UInt8)),((0:Int),(([]:List p9),()))))))) [(3,9),(4,10),(6,11)]),(4,.cells CJ (aA.2.2.2.1,(aA.2.2.2.2.1,(aA.2.2.2.2.2.1,(aA.2.2.2.2.2.2,())))) []),(5,.grow 9 1 (List.length ([]:List (List UInt8)))),(6,.grow 144 2 (List.length ([]:List p9))),(7,.grow 52 7 (List.length ([]:List pX))),(8,.grow 3 1 (List.length ([]:List Int))),(9,.grow 9 1 (List.length ([]:List (List UInt8)))),(10,.grow 9 1 (List.length ([]:List (List UInt8)))),(11,.grow 144 2 (List.length ([]:List p9)))],12,77,0⟩) aG) ?_ ?_
     ·refine rG hy1 (fun x=>⟨[(2,(.val .ref (some (0,0)),none)),(3,(.val .ref (some (1,0)),none)),(4,(.val .ref (some (2,0)),none)),(5,(.val .ref (some (3,0)),none)),(6,(.val .ref (some (4,0)),none)),(7,(.val (.int .i64) x,none))],[(0,.cells rZ (O.1,(aA.1,(aA.2.1,(aA.2.2.1,((O.2.2.2.2.1.1,(O.2.2.2.2.1.2.1,(O.2.2.2.2.1.2.2.1,(O.2.2.2.2.1.2.2.2.1,())))),(O.2.2.2.2.2.1,())))))) []),(1,.cells uJ Z []),(2,.cells rZ (([]:List UInt8),((0:Int),((0:Int),((0:Int),((([]:List UInt8),(([]:List (List UInt8)),(([]:List p9),(([]:List pX),())))),(([]:List Int),())))))) [(5,5),(6,6),(7,7),(8,8)]),(3,.cells uJ (([]:List UInt8),(([]:List UInt8),(([]:List UInt8),(([]:List (List UInt8)),(([]:List (List UInt8)),((0:Int),(([]:List p9),()))))))) [(3,9),(4,10),(6,11)]),(4,.cells CJ (aA.2.2.2.1,(aA.2.2.2.2.1,(aA.2.2.2.2.2.1,(aA.2.2.2.2.2.2,())))) []),(5,.grow 9 1 (List.length ([]:List (List UInt8)))),(6,.grow 144 2 (List.length ([]:List p9))),(7,.grow 52 7 (List.length ([]:List pX))),(8,.grow 3 1 (List.length ([]:List Int))),(9,.grow 9 1 (List.length ([]:List (List UInt8)))),(10,.grow 9 1 (List.length ([]:List (List UInt8)))),(11,.grow 144 2 (List.length ([]:List p9)))],12,77,0⟩) ⟨[2,3,4,5,6,7],[(0,0),(1,16),(2,32),(3,48),(4,144),(5,33),(6,34),(7,35),(8,36),(9,49),(10,50),(11,51)]⟩ (by rfl) ?_
      intro aH w1 n1 hC1 hN1
      unfold LK at hC1
      dsimp only at hC1⊢
      refine p4 ?_
      obtain⟨hg4,hC1⟩:=oU hC1
      refine qK uX ?_ (hp:=by exact And.intro (fun hh=>hh) (And.intro (fun hh=>hh) (And.intro (fun hh=>hh) (And.intro hg4 (And.intro (fun hh=>hh) (And.intro (fun hh=>hh) (And.intro (fun hh=>hh) (And.intro (fun hh=>hh) ((fun hh=>pZ hh))))))))))
      refine oX hC1 (fun hC1 hc5=> ?_) (fun hC1 hc5=> ?_)
      ·refine p6 (oW (pT ?_))
       obtain⟨hg5,hC1⟩:=oU hC1
       refine pF uX ?_ (hp:=by exact hg5)
       refine pB ?_
       cases hC1
       exact qG ⟨⟨[2,3,4,5,6,7],[(0,0),(1,1),(2,2),(3,3),(4,4),(5,5),(6,6),(7,7),(8,8),(9,9),(10,10),(11,11)]⟩,_,by rfl,hN1⟩
      ·refine qW (r7 (qZ ?_))
       cases hC1
       cases hN1
       exact qY ⟨⟨[2,3,4,5,6,7],[(0,0),(1,1),(2,2),(3,3),(4,4),(5,5),(6,6),(7,7),(8,8),(9,9),(10,10),(11,11)]⟩,by rfl⟩
     ·rintro _ rfl
      dsimp only at hC0⊢
      refine rE (oW ?_)
      obtain⟨hg6,hC0⟩:=oU hC0
      obtain⟨hg7,hC0⟩:=oU hC0
      obtain⟨hg8,hC0⟩:=oU hC0
      obtain⟨hg9,hC0⟩:=oU hC0
      obtain⟨hg10,hC0⟩:=oU hC0
      refine E1 uX ?_ (hp:=by exact And.intro hg6 (And.intro (by first|exact rfl|exact trivial) (And.intro hg7 (And.intro (by first|exact rfl|exact trivial) (And.intro hg8 (And.intro hg9 (And.intro (by first|exact rfl|exact trivial) (hg10))))))))
      refine pB (oW ?_)
      refine qK uX ?_
      refine oV ?_
      cases hC0
      exact⟨[],by rfl,by rfl,by rfl⟩
attribute [irreducible] BU
end
end Go.Proofs.YtfchbnahjcdiiaaGreatDoor
namespace Go.Proofs.YtfchbnahjcdiiaaGreatDoor
open Vc
set_option maxRecDepth 100000
set_option maxHeartbeats 4000000
set_option linter.unusedSimpArgs false
set_option linter.unusedVariables false
noncomputable section
def aAG (O:Int) (Z:(List UInt8)):(Int×(List Int))→Option ((Int×(List Int))⊕((List Int)⊕((List UInt8)×Int×Int))):=fun(aA,aB)=>
 if (decide (aA<(List.length Z:Int)))=true then
  if 0≤aA∧aA<(List.length Z:Int) then
   if (decide ((pA Z aA)=(38:Int)))=true then
    if 0≤aA∧aA≤(List.length Z:Int)∧(List.length Z:Int)≤(List.length Z:Int) then
     (II (oZ Z aA (List.length Z:Int))).bind fun aC=>
     if (decide (aC.2=(0:Int)))=true then
      some (.inr (.inr ((([]:List UInt8),aA,(3:Int)))))
     else
      (G2 (aB,()) aC.1).bind fun aD=>
      if oT (aA+aC.2) then
       some (.inl ((aA+aC.2),(aB++s3 aC.1)))
      else none
    else none
   else
    if 0≤aA∧aA<(List.length Z:Int) then
     if (G6 O (pA Z aA))=true then
      some (.inr (.inr ((([]:List UInt8),aA,(3:Int)))))
     else
      if 0≤aA∧aA<(List.length Z:Int) then
       (G7 (aB,()) (pA Z aA)).bind fun aE=>
       if oT (aA+(1:Int)) then
        some (.inl ((aA+(1:Int)),(aB++([(pA Z aA)]:List Int))))
       else none
      else none
    else none
  else none
 else
  some (.inr (.inl aB))
def IJ (O:Int) (Z:(List UInt8)):(Int×(List Int))→Option ((Int×(List Int))⊕((List Int)⊕((List UInt8)×Int×Int))):=fun(aA,aB)=>
 if (decide (aA<(List.length Z:Int)))=true then
  if 0≤aA∧aA<(List.length Z:Int) then
   if (decide ((pA Z aA)=(92:Int)))=true then
    if 0≤aA∧aA≤(List.length Z:Int)∧(List.length Z:Int)≤(List.length Z:Int) then
     (D8 (oZ Z aA (List.length Z:Int))).bind fun aC=>
     if (decide (aC.2=(0:Int)))=true then
      some (.inr (.inr ((([]:List UInt8),aA,(3:Int)))))
     else
      (G2 (aB,()) aC.1).bind fun aD=>
      if oT (aA+aC.2) then
       some (.inl ((aA+aC.2),(aB++s3 aC.1)))
      else none
    else none
   else
    if 0≤aA∧aA<(List.length Z:Int) then
     if (G6 O (pA Z aA))=true then
      some (.inr (.inr ((([]:List UInt8),aA,(3:Int)))))
     else
      if 0≤aA∧aA<(List.length Z:Int) then
       (G7 (aB,()) (pA Z aA)).bind fun aE=>
       if oT (aA+(1:Int)) then
        some (.inl ((aA+(1:Int)),(aB++([(pA Z aA)]:List Int))))
       else none
      else none
    else none
  else none
 else
  some (.inr (.inl aB))
def BV (O:Int) (Z:(List UInt8)):Option ((List UInt8)×Int×Int):=
 if (!((decide ((1:Int)≤O))&&(decide (O≤(4:Int)))))=true then
  some ((([]:List UInt8),(0:Int),(1:Int)))
 else
  if (decide (O=(4:Int)))=true then
   qT (pR (aAG O Z) ((0:Int),([]:List Int))) fun aA=>
   some (((rA aA),(0:Int),(0:Int)))
  else
   qT (pR (IJ O Z) ((0:Int),([]:List Int))) fun aB=>
   some (((rA aB),(0:Int),(0:Int)))
section
variable (O:Int) (Z:(List UInt8))
@[reducible] def a1K:List Slot:=[(.val (.int .i64) O,none),(.val .str Z,none)]
@[reducible] def a1L:List Blk:=[]
@[go_sem] def a1M:Ret:=⟨[((BV O Z)).isSome=true],[(.val .str ((val (BV O Z)).1),none),(.val (.int .i64) ((val (BV O Z)).2.1),none),(.val (.int .i64) ((val (BV O Z)).2.2),none)],[]⟩
def aAH:List Slot→List Blk→Option Ret:=pM (V:=(Int×(List UInt8))) (fun x=>a1K x.1 x.2) (fun x=>a1L) fun x=>a1M x.1 x.2
@[go_sem] theorem aMc:aAH (no_index (a1K O Z)) (no_index a1L)=some (a1M O Z):=pN (fun⟨a0,a1⟩ ⟨b0,b1⟩ h1 h2=>by cases h1;cases h2;rfl) (O,Z)
end
@[reducible,go_sem] def aAI:Nat×Sig:=(110,⟨[.v,.v],aAH,[],[],none⟩)
theorem rT:Env Tryz.prog [q7,G0] (pE [WG,aAB,a7H,a8F,a8H,TW,aAz]):=⟨⟨q9,⟨KO,trivial⟩⟩,p5 a8v (p5 aGP (p5 aFS (p5 aF8 (p5 aF9 (p5 a7x (p5 aGO pP)))))),pH⟩
theorem aGS:pI Tryz.prog aAI:=by
 refine pO rT Tryz.func110 (c:=_) rfl (N:=58) (by kernel_rfl) (ts:=[(4,none),(5,none),(6,none)]) rfl (fun _ _=>rfl) ?_
 intro⟨O,Z⟩ hs hrow
 dsimp only[a1K,a1L,a1M,pJ,enumH,pD,pG,pL,Nat.reduceAdd] at hs hrow⊢
 have hz:=hs
 obtain⟨z0,hC0⟩:=Option.isSome_iff_exists.1 hz
 try rw[pW hC0]
 clear hz hs
 unfold BV at hC0
 refine oS rT ?_
 refine p4 ?_
 refine oS rT ?_
 refine oX hC0 (fun hC0 hc1=> ?_) (fun hC0 hc1=> ?_)
 ·refine oS rT ?_
  refine oV (pC ?_)
  cases hC0
  exact⟨[],by rfl,by rfl,by rfl⟩
 ·refine p6 (oW ?_)
  refine oS rT ?_
  refine p4 ?_
  refine oS rT ?_
  refine oX hC0 (fun hC0 hc2=> ?_) (fun hC0 hc2=> ?_)
  ·refine pF rT ?_
   refine oW ?_
   refine oS rT ?_
   refine p4 ?_
   refine oS rT ?_
   refine pT ?_
   obtain⟨y1,hy1,hC0⟩:=sX hC0
   refine rH 0 (fun s=> ∃v,y1= .inl v∧s=(fun x=>⟨[(9,(.val .ref (some (0,0)),none))],[(0,.cells uU ((some (0,0)),(x,())) [(1,1)]),(1,.grow 5 1 (List.length x))],2,58,0⟩) v) ?_ ?_
   ·refine rG hy1 (fun x=>⟨[(0,(.val (.int .i64) O,none)),(1,(.val .str Z,none)),(7,(.val (.int .u8) (38:Int),none)),(8,(.val .clo (some (143,[])),none)),(9,(.val .ref (some (0,0)),none)),(10,(.val (.int .i64) x.1,none))],[(0,.cells uU ((some (0,0)),(x.2,())) [(1,1)]),(1,.grow 5 1 (List.length x.2))],2,58,0⟩) ⟨[0,1,7,8,9,10],[(0,192),(1,193)]⟩ (by rfl) ?_
    intro x1 w1 n1 hC1 hN1
    obtain⟨aA,aB⟩:=x1
    unfold aAG at hC1
    dsimp only at hC1⊢
    refine p4 ?_
    refine oS rT ?_
    refine oX hC1 (fun hC1 hc3=> ?_) (fun hC1 hc3=> ?_)
    ·refine p6 (oW (pT (pT ?_)))
     obtain⟨hg1,hC1⟩:=oU hC1
     refine oS rT ?_ (hp:=by exact hg1)
     refine oX hC1 (fun hC1 hc4=> ?_) (fun hC1 hc4=> ?_)
     ·obtain⟨hg2,hC1⟩:=oU hC1
      obtain⟨aC,hv3,hw3,hC1⟩:=p8 hC1
      try simp only[go_sem] at hw3
      refine oS rT ?_ (hp:=by exact And.intro hg2 ((p7 hv3))) (h:=by simp only[go_sem,hw3];rfl)
      refine p4 ?_
      refine oS rT ?_
      refine oX hC1 (fun hC1 hc5=> ?_) (fun hC1 hc5=> ?_)
      ·refine oS rT ?_
       refine oV (pC (pS (pS (sK (sJ (pS (pC ?_)))))))
       cases hC1
       cases hN1
       dsimp only at hC0
       cases hC0
       exact⟨[],by rfl,by rfl,by rfl⟩
      ·refine p6 (oW ?_)
       obtain⟨aD,hv4,hw4,hC1⟩:=p8 hC1
       try simp only[go_sem] at hw4
       refine oS rT ?_ (hp:=by exact And.intro (by first|exact rfl|exact trivial) ((p7 hv4))) (h:=by simp only[go_sem,hw4];rfl)
       obtain⟨hg5,hC1⟩:=oU hC1
       refine pF rT ?_ (hp:=by exact hg5)
       refine pB (pB ?_)
       cases hC1
       exact qG ⟨⟨[0,1,7,8,9,10],[(0,0),(1,1)]⟩,_,by rfl,hN1⟩
     ·obtain⟨hg6,hC1⟩:=oU hC1
      refine oS rT ?_ (hp:=by exact hg6)
      refine oX hC1 (fun hC1 hc6=> ?_) (fun hC1 hc6=> ?_)
      ·refine oS rT ?_
       refine oV (pS (pS (sK (sJ (pS (pC ?_))))))
       cases hC1
       cases hN1
       dsimp only at hC0
       cases hC0
       exact⟨[],by rfl,by rfl,by rfl⟩
      ·obtain⟨hg7,hC1⟩:=oU hC1
       obtain⟨aE,hv8,hw8,hC1⟩:=p8 hC1
       try simp only[go_sem] at hw8
       refine oS rT ?_ (hp:=by exact And.intro hg7 (And.intro (by first|exact rfl|exact trivial) ((p7 hv8)))) (h:=by simp only[go_sem,hw8];rfl)
       obtain⟨hg9,hC1⟩:=oU hC1
       refine pF rT ?_ (hp:=by exact hg9)
       refine pB (pB ?_)
       cases hC1
       exact qG ⟨⟨[0,1,7,8,9,10],[(0,0),(1,1)]⟩,_,by rfl,hN1⟩
    ·refine qW (r7 (qZ ?_))
     cases hC1
     cases hN1
     exact qY ⟨⟨[9],[(0,0),(1,1)]⟩,_,rfl,by rfl⟩
   ·rintro _ ⟨aF,rfl,rfl⟩
    dsimp only at hC0⊢
    refine rE (oW ?_)
    refine oS rT ?_ (hp:=by exact(by first|exact rfl|exact trivial))
    refine oV ?_
    cases hC0
    exact⟨[],by rfl,by rfl,by rfl⟩
  ·refine p6 (oW ?_)
   refine oS rT ?_
   refine p4 ?_
   refine oS rT ?_
   refine pT ?_
   obtain⟨y1,hy1,hC0⟩:=sX hC0
   refine rH 0 (fun s=> ∃v,y1= .inl v∧s=(fun x=>⟨[(9,(.val .ref (some (0,0)),none))],[(0,.cells uU ((some (0,0)),(x,())) [(1,1)]),(1,.grow 5 1 (List.length x))],2,58,0⟩) v) ?_ ?_
   ·refine rG hy1 (fun x=>⟨[(0,(.val (.int .i64) O,none)),(1,(.val .str Z,none)),(7,(.val (.int .u8) (92:Int),none)),(8,(.val .clo (some (142,[])),none)),(9,(.val .ref (some (0,0)),none)),(10,(.val (.int .i64) x.1,none))],[(0,.cells uU ((some (0,0)),(x.2,())) [(1,1)]),(1,.grow 5 1 (List.length x.2))],2,58,0⟩) ⟨[0,1,7,8,9,10],[(0,160),(1,161)]⟩ (by rfl) ?_
    intro x1 w1 n1 hC1 hN1
    obtain⟨aG,aH⟩:=x1
    unfold IJ at hC1
    dsimp only at hC1⊢
    refine p4 ?_
    refine oS rT ?_
    refine oX hC1 (fun hC1 hc7=> ?_) (fun hC1 hc7=> ?_)
    ·refine p6 (oW (pT (pT ?_)))
     obtain⟨hg10,hC1⟩:=oU hC1
     refine oS rT ?_ (hp:=by exact hg10)
     refine oX hC1 (fun hC1 hc8=> ?_) (fun hC1 hc8=> ?_)
     ·obtain⟨hg11,hC1⟩:=oU hC1
      obtain⟨aI,hv12,hw12,hC1⟩:=p8 hC1
      try simp only[go_sem] at hw12
      refine oS rT ?_ (hp:=by exact And.intro hg11 ((p7 hv12))) (h:=by simp only[go_sem,hw12];rfl)
      refine p4 ?_
      refine oS rT ?_
      refine oX hC1 (fun hC1 hc9=> ?_) (fun hC1 hc9=> ?_)
      ·refine oS rT ?_
       refine oV (pC (pS (pS (sK (sJ (pS (pC ?_)))))))
       cases hC1
       cases hN1
       dsimp only at hC0
       cases hC0
       exact⟨[],by rfl,by rfl,by rfl⟩
      ·refine p6 (oW ?_)
       obtain⟨aJ,hv13,hw13,hC1⟩:=p8 hC1
       try simp only[go_sem] at hw13
       refine oS rT ?_ (hp:=by exact And.intro (by first|exact rfl|exact trivial) ((p7 hv13))) (h:=by simp only[go_sem,hw13];rfl)
       obtain⟨hg14,hC1⟩:=oU hC1
       refine pF rT ?_ (hp:=by exact hg14)
       refine pB (pB ?_)
       cases hC1
       exact qG ⟨⟨[0,1,7,8,9,10],[(0,0),(1,1)]⟩,_,by rfl,hN1⟩
     ·obtain⟨hg15,hC1⟩:=oU hC1
      refine oS rT ?_ (hp:=by exact hg15)
      refine oX hC1 (fun hC1 hc10=> ?_) (fun hC1 hc10=> ?_)
      ·refine oS rT ?_
       refine oV (pS (pS (sK (sJ (pS (pC ?_))))))
       cases hC1
       cases hN1
       dsimp only at hC0
       cases hC0
       exact⟨[],by rfl,by rfl,by rfl⟩
      ·obtain⟨hg16,hC1⟩:=oU hC1
       obtain⟨aK,hv17,hw17,hC1⟩:=p8 hC1
       try simp only[go_sem] at hw17
       refine oS rT ?_ (hp:=by exact And.intro hg16 (And.intro (by first|exact rfl|exact trivial) ((p7 hv17)))) (h:=by simp only[go_sem,hw17];rfl)
       obtain⟨hg18,hC1⟩:=oU hC1
       refine pF rT ?_ (hp:=by exact hg18)
       refine pB (pB ?_)
       cases hC1
       exact qG ⟨⟨[0,1,7,8,9,10],[(0,0),(1,1)]⟩,_,by rfl,hN1⟩
    ·refine qW (r7 (qZ ?_))
     cases hC1
     cases hN1
     exact qY ⟨⟨[9],[(0,0),(1,1)]⟩,_,rfl,by rfl⟩
   ·rintro _ ⟨aL,rfl,rfl⟩
    dsimp only at hC0⊢
    refine rE (oW ?_)
    refine oS rT ?_ (hp:=by exact(by first|exact rfl|exact trivial))
    refine oV ?_
    cases hC0
    exact⟨[],by rfl,by rfl,by rfl⟩
attribute [irreducible] BV
def D9 (O:(List UInt8)) (Z:Int):Option (Int×(List UInt8)×Int):=
 if 0≤(1:Int)∧(1:Int)≤(List.length O:Int)∧(List.length O:Int)≤(List.length O:Int) then
  (GF (3:Int) (oZ O (1:Int) (List.length O:Int)) (34:Int)).bind fun aA=>
  if (decide (aA<(0:Int)))=true then
   some (((0:Int),([]:List UInt8),Z))
  else
   if oT (aA+(1:Int)) then
    if 0≤(1:Int)∧(1:Int)≤(aA+(1:Int))∧(aA+(1:Int))≤(List.length O:Int) then
     (BV (3:Int) (oZ O (1:Int) (aA+(1:Int)))).bind fun aB=>
     if (((!decide (aB.2.2=(0:Int)))==false)=true→((I5 aB.1)).isSome=true) then
      if ((!decide (aB.2.2=(0:Int)))||(!((decide ((List.length aB.1:Int)≤(4000:Int)))&&(Lib.validD aB.1))))=true then
       some (((0:Int),([]:List UInt8),Z))
      else
       if oT (Z+aA) then
        if oT ((Z+aA)+(2:Int)) then
         some (((1:Int),aB.1,((Z+aA)+(2:Int))))
        else none
       else none
     else none
    else none
   else none
 else none
section
variable (O:(List UInt8)) (Z:Int)
@[reducible] def a1N:List Slot:=[(.val .str O,none),(.val (.int .i64) Z,none)]
@[reducible] def a1O:List Blk:=[]
@[go_sem] def a1P:Ret:=⟨[((D9 O Z)).isSome=true],[(.val CJ ((val (D9 O Z)).1,((val (D9 O Z)).2.1,(Z,((val (D9 O Z)).2.2,())))),none)],[]⟩
def aAJ:List Slot→List Blk→Option Ret:=pM (V:=((List UInt8)×Int)) (fun x=>a1N x.1 x.2) (fun x=>a1O) fun x=>a1P x.1 x.2
@[go_sem] theorem aMd:aAJ (no_index (a1N O Z)) (no_index a1O)=some (a1P O Z):=pN (fun⟨a0,a1⟩ ⟨b0,b1⟩ h1 h2=>by cases h1;cases h2;rfl) (O,Z)
end
@[reducible,go_sem] def aAK:Nat×Sig:=(65,⟨[.v,.v],aAJ,[],[],none⟩)
theorem DA:Env Tryz.prog [q7,wR] (pE [a9K,aAI,a9D]):=⟨⟨q9,⟨yB,trivial⟩⟩,p5 aGv (p5 aGS (p5 aGt pP)),pH⟩
theorem aGT:pI Tryz.prog aAK:=by
 refine pO DA Tryz.func65 (c:=_) rfl (N:=43) (by kernel_rfl) (ts:=[(4,some 58)]) rfl (fun _ _=>rfl) ?_
 intro⟨O,Z⟩ hs hrow
 dsimp only[a1N,a1O,a1P,pJ,enumH,pD,pG,pL,Nat.reduceAdd] at hs hrow⊢
 have hz:=hs
 obtain⟨z0,hC0⟩:=Option.isSome_iff_exists.1 hz
 try rw[pW hC0]
 clear hz hs
 unfold D9 at hC0
 refine oS DA ?_
 obtain⟨hg1,hC0⟩:=oU hC0
 obtain⟨aA,hv2,hw2,hC0⟩:=p8 hC0
 try simp only[go_sem] at hw2
 refine oS DA ?_ (hp:=by exact And.intro hg1 ((p7 hv2))) (h:=by simp only[go_sem,hw2];rfl)
 refine p4 ?_
 refine oS DA ?_
 refine oX hC0 (fun hC0 hc1=> ?_) (fun hC0 hc1=> ?_)
 ·refine oS DA ?_
  refine oV (pC ?_)
  cases hC0
  exact⟨[],by rfl,by rfl,by rfl⟩
 ·refine p6 (oW ?_)
  obtain⟨hg3,hC0⟩:=oU hC0
  obtain⟨hg4,hC0⟩:=oU hC0
  obtain⟨aB,hv5,hw5,hC0⟩:=p8 hC0
  try simp only[go_sem] at hw5
  refine oS DA ?_ (hp:=by exact And.intro hg3 (And.intro hg4 ((p7 hv5)))) (h:=by simp only[go_sem,hw5];rfl)
  refine p4 ?_
  obtain⟨hg6,hC0⟩:=oU hC0
  refine oS DA ?_ (hp:=by exact And.intro (fun hh=>hh) (And.intro hg6 (And.intro (fun hh=>hh) ((fun hh=>sF hh)))))
  refine oX hC0 (fun hC0 hc2=> ?_) (fun hC0 hc2=> ?_)
  ·refine oS DA ?_
   refine oV (pC ?_)
   cases hC0
   exact⟨[],by rfl,by rfl,by rfl⟩
  ·refine p6 (oW ?_)
   obtain⟨hg7,hC0⟩:=oU hC0
   obtain⟨hg8,hC0⟩:=oU hC0
   refine oS DA ?_ (hp:=by exact And.intro hg7 (hg8))
   refine oV ?_
   cases hC0
   exact⟨[],by rfl,by rfl,by rfl⟩
attribute [irreducible] D9
end
end Go.Proofs.YtfchbnahjcdiiaaGreatDoor
namespace Go.Proofs.YtfchbnahjcdiiaaGreatDoor
open Vc
set_option maxRecDepth 100000
set_option maxHeartbeats 4000000
set_option linter.unusedSimpArgs false
set_option linter.unusedVariables false
noncomputable section
def sM (O:tD) (Z:pX) (aA:(Bool×(Bool×(Bool×Unit)))) (aB:qA) (aC:Bool):Option (Int×Int×Int×(List UInt8)×(List UInt8)×(List (List UInt8))×(List (List UInt8))×Int×(List p9)×Bool×Bool×Bool):=
 if (decide (aB.2.1=([99,111,109,109,101,110,116]:List UInt8)))=true then
  if (decide ((20:Int)≤(List.length Z.2.2.2.1:Int)))=true then
   q6 (tQ O aB (6:Int)) fun aD=>
   some ((O.2.1,aD.1,aD.2,Z.2.1,Z.2.2.1,Z.2.2.2.1,Z.2.2.2.2.1,Z.2.2.2.2.2.1,Z.2.2.2.2.2.2.1,aA.1,aA.2.1,aA.2.2.1))
  else
   (sU O (1:Int) ([]:List UInt8)).bind fun aE=>
   if (List.length ([]:List (List UInt8))+List.length Z.2.2.2.1)*16≤140737488355328 then
    if (List.length (([]:List (List UInt8))++Z.2.2.2.1)+List.length ([aE.2.2.2.2.1]:List (List UInt8)))*16≤140737488355328 then
     some ((aE.1,aE.2.1,aE.2.2.1,Z.2.1,Z.2.2.1,((([]:List (List UInt8))++Z.2.2.2.1)++([aE.2.2.2.2.1]:List (List UInt8))),Z.2.2.2.2.1,Z.2.2.2.2.2.1,Z.2.2.2.2.2.2.1,aA.1,aA.2.1,aA.2.2.1))
    else none
   else none
 else
  if (decide (aB.2.1=([102,105,101,108,100]:List UInt8)))=true then
   (BT O Z).bind fun aF=>
   some ((aF.1,aF.2.1,aF.2.2.1,Z.2.1,Z.2.2.1,Z.2.2.2.1,Z.2.2.2.2.1,Z.2.2.2.2.2.1,aF.2.2.2,aA.1,aA.2.1,aA.2.2.1))
  else
   if aC=true then
    q6 (tQ O aB (3:Int)) fun aG=>
    some ((O.2.1,aG.1,aG.2,Z.2.1,Z.2.2.1,Z.2.2.2.1,Z.2.2.2.2.1,Z.2.2.2.2.2.1,Z.2.2.2.2.2.2.1,aA.1,aA.2.1,aA.2.2.1))
   else
    if (decide (aB.2.1=([102,108,97,103]:List UInt8)))=true then
     (BU O Z).bind fun aH=>
     some ((aH.1,aH.2.1,aH.2.2.1,Z.2.1,Z.2.2.1,Z.2.2.2.1,aH.2.2.2,Z.2.2.2.2.2.1,Z.2.2.2.2.2.2.1,aA.1,aA.2.1,aA.2.2.1))
    else
     qD (σ:=Bool) (
       if ((decide (aB.2.1=([115,111,117,114,99,101]:List UInt8)))&&aA.1)=true then
        some (((decide (aB.2.1=([115,111,117,114,99,101]:List UInt8)))&&aA.1))
       else
        if ((decide (aB.2.1=([116,97,114,103,101,116]:List UInt8)))&&aA.2.1)=true then
         some (((decide (aB.2.1=([116,97,114,103,101,116]:List UInt8)))&&aA.2.1))
        else
         some (((decide (aB.2.1=([115,116,97,116,101]:List UInt8)))&&aA.2.2.1))
      ) fun aI=>
     if aI=true then
      q6 (tQ O aB (9:Int)) fun aJ=>
      some ((O.2.1,aJ.1,aJ.2,Z.2.1,Z.2.2.1,Z.2.2.2.1,Z.2.2.2.2.1,Z.2.2.2.2.2.1,Z.2.2.2.2.2.2.1,aA.1,aA.2.1,aA.2.2.1))
     else
      if (decide (aB.2.1=([115,111,117,114,99,101]:List UInt8)))=true then
       (sU O (1:Int) ([]:List UInt8)).bind fun aK=>
       some ((aK.1,aK.2.1,aK.2.2.1,aK.2.2.2.2.1,Z.2.2.1,Z.2.2.2.1,Z.2.2.2.2.1,Z.2.2.2.2.2.1,Z.2.2.2.2.2.2.1,true,aA.2.1,aA.2.2.1))
      else
       if (decide (aB.2.1=([116,97,114,103,101,116]:List UInt8)))=true then
        (sU O (1:Int) ([]:List UInt8)).bind fun aL=>
        some ((aL.1,aL.2.1,aL.2.2.1,Z.2.1,aL.2.2.2.2.1,Z.2.2.2.1,Z.2.2.2.2.1,Z.2.2.2.2.2.1,Z.2.2.2.2.2.2.1,aA.1,true,aA.2.2.1))
       else
        if (decide (aB.2.1=([115,116,97,116,101]:List UInt8)))=true then
         (sU O (2:Int) ([]:List UInt8)).bind fun aM=>
         if (((decide (aM.2.2.1=(0:Int)))==true)=true→((D1 aM.2.2.2.2.1)).isSome=true) then
          qD (σ:=(Int×Int)) (
            if ((decide (aM.2.2.1=(0:Int)))&&(decide ((val (D1 aM.2.2.2.2.1))<(0:Int))))=true then
             q6 (tQ (O.1,(aM.1,(aM.2.1,(aM.2.2.1,((O.2.2.2.2.1.1,(O.2.2.2.2.1.2.1,(O.2.2.2.2.1.2.2.1,(O.2.2.2.2.1.2.2.2.1,())))),(O.2.2.2.2.2.1,())))))) (aM.2.2.2.1,(aM.2.2.2.2.1,(aM.2.2.2.2.2.1,(aM.2.2.2.2.2.2,())))) (3:Int)) fun aN=>
             some ((aN.1,aN.2))
            else
             some ((aM.2.1,aM.2.2.1))
           ) fun(aO,aP)=>
          (D1 aM.2.2.2.2.1).bind fun aQ=>
          some ((aM.1,aO,aP,Z.2.1,Z.2.2.1,Z.2.2.2.1,Z.2.2.2.2.1,aQ,Z.2.2.2.2.2.2.1,aA.1,aA.2.1,true))
         else none
        else
         q6 (tQ O aB (3:Int)) fun aR=>
         some ((O.2.1,aR.1,aR.2,Z.2.1,Z.2.2.1,Z.2.2.2.1,Z.2.2.2.2.1,Z.2.2.2.2.2.1,Z.2.2.2.2.2.2.1,aA.1,aA.2.1,aA.2.2.1))
section
variable (O:tD) (Z:pX) (aA:(Bool×(Bool×(Bool×Unit)))) (aB:qA) (aC:Bool)
@[reducible] def a1Q:List Slot:=[(.val rZ O,none),(.val uJ Z,none),(.val E2 aA,none),(.val CJ aB,none),(.val .bool aC,none)]
@[reducible] def a1R:List Blk:=[]
@[go_sem] def a1S:Ret:=⟨[((sM O Z aA aB aC)).isSome=true],[(.val rZ (O.1,((val (sM O Z aA aB aC)).1,((val (sM O Z aA aB aC)).2.1,((val (sM O Z aA aB aC)).2.2.1,((O.2.2.2.2.1.1,(O.2.2.2.2.1.2.1,(O.2.2.2.2.1.2.2.1,(O.2.2.2.2.1.2.2.2.1,())))),(O.2.2.2.2.2.1,())))))),none),(.val uJ (Z.1,((val (sM O Z aA aB aC)).2.2.2.1,((val (sM O Z aA aB aC)).2.2.2.2.1,((val (sM O Z aA aB aC)).2.2.2.2.2.1,((val (sM O Z aA aB aC)).2.2.2.2.2.2.1,((val (sM O Z aA aB aC)).2.2.2.2.2.2.2.1,((val (sM O Z aA aB aC)).2.2.2.2.2.2.2.2.1,()))))))),none),(.val E2 ((val (sM O Z aA aB aC)).2.2.2.2.2.2.2.2.2.1,((val (sM O Z aA aB aC)).2.2.2.2.2.2.2.2.2.2.1,((val (sM O Z aA aB aC)).2.2.2.2.2.2.2.2.2.2.2,()))),none)],[]⟩
def aAL:List Slot→List Blk→Option Ret:=pM (V:=(tD×pX×(Bool×(Bool×(Bool×Unit)))×qA×Bool)) (fun x=>a1Q x.1 x.2.1 x.2.2.1 x.2.2.2.1 x.2.2.2.2) (fun x=>a1R) fun x=>a1S x.1 x.2.1 x.2.2.1 x.2.2.2.1 x.2.2.2.2
@[go_sem] theorem aMe:aAL (no_index (a1Q O Z aA aB aC)) (no_index a1R)=some (a1S O Z aA aB aC):=pN (fun⟨a0,a1,a2,a3,a4⟩ ⟨b0,b1,b2,b3,b4⟩ h1 h2=>by cases h1;cases h2;rfl) (O,Z,aA,aB,aC)
end
@[reducible,go_sem] def aAM:Nat×Sig:=(120,⟨[.v,.v,.v,.v,.v],aAL,[],[],none⟩)
theorem rL:Env Tryz.prog [s5,BH,q7,uK,vH,yU,AF,AG,OS] (pE [EA,GJ,aAD,aAF,a9M]):=⟨⟨sG,⟨E4,⟨q9,⟨vG,⟨wQ,⟨AI,⟨CL,⟨CM,⟨a7u,trivial⟩⟩⟩⟩⟩⟩⟩⟩⟩,p5 G4 (p5 IH (p5 aGQ (p5 aGR (p5 aGw pP)))),pH⟩
theorem aGU:pI Tryz.prog aAM:=by
 refine pO rL Tryz.func120 (c:=_) rfl (N:=149) (by kernel_rfl) (ts:=[(10,some 91),(11,some 52),(12,some 184)]) rfl (fun _ _=>rfl) ?_
 intro⟨O,Z,aA,aB,aC⟩ hs hrow
 dsimp only[a1Q,a1R,a1S,pJ,enumH,pD,pG,pL,Nat.reduceAdd] at hs hrow⊢
 have hz:=hs
 obtain⟨z0,hC0⟩:=Option.isSome_iff_exists.1 hz
 try rw[pW hC0]
 clear hz hs
 unfold sM at hC0
 refine oS rL ?_
 refine oS rL ?_
 refine p4 (pT ?_)
 refine oS rL ?_
 refine oX hC0 (fun hC0 hc1=> ?_) (fun hC0 hc1=> ?_)
 ·refine p4 ?_
  refine oS rL ?_
  refine oX hC0 (fun hC0 hc2=> ?_) (fun hC0 hc2=> ?_)
  ·obtain⟨aD,hw_36,hC0⟩:=rI hC0
   try simp only[go_sem] at hw_36
   refine qK rL ?_ (h:=by simp only[go_sem,hw_36];rfl)
   refine oV (pC (pS (pC ?_)))
   cases hC0
   exact⟨[],by rfl,by rfl,by rfl⟩
  ·refine p6 (oW ?_)
   obtain⟨aE,hv1,hw1,hC0⟩:=p8 hC0
   try simp only[go_sem] at hw1
   refine oS rL ?_ (hp:=by exact(p7 hv1)) (h:=by simp only[go_sem,hw1];rfl)
   obtain⟨hg2,hC0⟩:=oU hC0
   obtain⟨hg3,hC0⟩:=oU hC0
   refine E1 rL ?_ (hp:=by exact And.intro (by first|exact rfl|exact trivial) (And.intro hg2 (And.intro (by first|exact rfl|exact trivial) (hg3))))
   refine pB (oW ?_)
   refine qK rL ?_
   refine oV ?_
   cases hC0
   exact⟨[],by rfl,by rfl,by rfl⟩
 ·refine oS rL ?_
  refine oX hC0 (fun hC0 hc3=> ?_) (fun hC0 hc3=> ?_)
  ·obtain⟨aF,hv4,hw4,hC0⟩:=p8 hC0
   try simp only[go_sem] at hw4
   refine pF rL ?_ (hp:=by exact(p7 hv4)) (h:=by simp only[go_sem,hw4];rfl)
   refine pB (oW ?_)
   refine qK rL ?_
   refine oV ?_
   cases hC0
   exact⟨[],by rfl,by rfl,by rfl⟩
  ·refine oS rL ?_
   refine oX hC0 (fun hC0 hc4=> ?_) (fun hC0 hc4=> ?_)
   ·obtain⟨aG,hw_39,hC0⟩:=rI hC0
    try simp only[go_sem] at hw_39
    refine pF rL ?_ (h:=by simp only[go_sem,hw_39];rfl)
    refine pB (oW ?_)
    refine qK rL ?_
    refine oV ?_
    cases hC0
    exact⟨[],by rfl,by rfl,by rfl⟩
   ·refine oS rL ?_
    refine oX hC0 (fun hC0 hc5=> ?_) (fun hC0 hc5=> ?_)
    ·obtain⟨aH,hv5,hw5,hC0⟩:=p8 hC0
     try simp only[go_sem] at hw5
     refine pF rL ?_ (hp:=by exact(p7 hv5)) (h:=by simp only[go_sem,hw5];rfl)
     refine pB (oW ?_)
     refine qK rL ?_
     refine oV ?_
     cases hC0
     exact⟨[],by rfl,by rfl,by rfl⟩
    ·refine p4 ?_
     refine oS rL ?_ (hp:=by exact And.intro (fun hh=>hh) ((fun hh=>pZ hh)))
     obtain⟨aI,hC1,hC0⟩:=oY hC0
     refine y8 (fun s=>s=(fun x=>⟨[(5,(.val .ref (some (0,0)),none)),(6,(.val .ref (some (1,0)),none)),(7,(.val .ref (some (2,0)),none)),(8,(.val .ref (some (3,0)),none)),(10,(.val .ref (some (4,0)),none)),(11,(.val .ref (some (5,0)),none)),(12,(.val .ref (some (6,0)),none)),(13,(.val .ref (some (7,0)),none)),(69,(.val .bool x,none))],[(0,.cells rZ O []),(1,.cells uJ Z []),(2,.cells E2 aA []),(3,.cells CJ aB []),(4,.cells rZ (([]:List UInt8),((0:Int),((0:Int),((0:Int),((([]:List UInt8),(([]:List (List UInt8)),(([]:List p9),(([]:List pX),())))),(([]:List Int),())))))) [(5,8),(6,9),(7,10),(8,11)]),(5,.cells uJ (([]:List UInt8),(([]:List UInt8),(([]:List UInt8),(([]:List (List UInt8)),(([]:List (List UInt8)),((0:Int),(([]:List p9),()))))))) [(3,12),(4,13),(6,14)]),(6,.cells E2 (false,(false,(false,()))) []),(7,.cells CJ ((0:Int),(([]:List UInt8),((0:Int),((0:Int),())))) []),(8,.grow 9 1 (List.length ([]:List (List UInt8)))),(9,.grow 144 2 (List.length ([]:List p9))),(10,.grow 52 7 (List.length ([]:List pX))),(11,.grow 3 1 (List.length ([]:List Int))),(12,.grow 9 1 (List.length ([]:List (List UInt8)))),(13,.grow 9 1 (List.length ([]:List (List UInt8)))),(14,.grow 144 2 (List.length ([]:List p9)))],15,149,0⟩) aI) ?_ ?_
     ·refine oX hC1 (fun hC1 hc6=> ?_) (fun hC1 hc6=> ?_)
      ·refine p6 ?_
       cases hC1
       exact rK ⟨⟨[5,6,7,8,10,11,12,13,69],[(0,0),(1,16),(2,32),(3,48),(4,64),(5,80),(6,96),(7,112),(8,65),(9,66),(10,67),(11,68),(12,81),(13,82),(14,83)]⟩,by rfl⟩
      ·refine oS rL ?_ (hp:=by exact And.intro (fun hh=>hh) ((fun hh=>pZ hh)))
       refine oX hC1 (fun hC1 hc7=> ?_) (fun hC1 hc7=> ?_)
       ·refine p6 ?_
        cases hC1
        exact rK ⟨⟨[5,6,7,8,10,11,12,13,69],[(0,0),(1,16),(2,32),(3,48),(4,64),(5,80),(6,96),(7,112),(8,65),(9,66),(10,67),(11,68),(12,81),(13,82),(14,83)]⟩,by rfl⟩
       ·refine pF rL ?_ (hp:=by exact And.intro (fun hh=>hh) ((fun hh=>pZ hh)))
        cases hC1
        exact rK ⟨⟨[5,6,7,8,10,11,12,13,69],[(0,0),(1,16),(2,32),(3,48),(4,64),(5,80),(6,96),(7,112),(8,65),(9,66),(10,67),(11,68),(12,81),(13,82),(14,83)]⟩,by rfl⟩
     ·rintro _ rfl
      dsimp only at hC0⊢
      refine oW ?_
      refine oX hC0 (fun hC0 hc8=> ?_) (fun hC0 hc8=> ?_)
      ·obtain⟨aJ,hw_42,hC0⟩:=rI hC0
       try simp only[go_sem] at hw_42
       refine pF rL ?_ (h:=by simp only[go_sem,hw_42];rfl)
       refine pB (oW ?_)
       refine qK rL ?_
       refine oV ?_
       cases hC0
       exact⟨[],by rfl,by rfl,by rfl⟩
      ·refine oS rL ?_
       refine oX hC0 (fun hC0 hc9=> ?_) (fun hC0 hc9=> ?_)
       ·obtain⟨aK,hv6,hw6,hC0⟩:=p8 hC0
        try simp only[go_sem] at hw6
        refine oS rL ?_ (hp:=by exact(p7 hv6)) (h:=by simp only[go_sem,hw6];rfl)
        refine pF rL ?_
        refine pB (oW ?_)
        refine qK rL ?_
        refine oV ?_
        cases hC0
        exact⟨[],by rfl,by rfl,by rfl⟩
       ·refine oS rL ?_
        refine oX hC0 (fun hC0 hc10=> ?_) (fun hC0 hc10=> ?_)
        ·obtain⟨aL,hv7,hw7,hC0⟩:=p8 hC0
         try simp only[go_sem] at hw7
         refine oS rL ?_ (hp:=by exact(p7 hv7)) (h:=by simp only[go_sem,hw7];rfl)
         refine pF rL ?_
         refine pB (oW ?_)
         refine qK rL ?_
         refine oV ?_
         cases hC0
         exact⟨[],by rfl,by rfl,by rfl⟩
        ·refine oS rL ?_
         refine oX hC0 (fun hC0 hc11=> ?_) (fun hC0 hc11=> ?_)
         ·obtain⟨aM,hv8,hw8,hC0⟩:=p8 hC0
          try simp only[go_sem] at hw8
          refine oS rL ?_ (hp:=by exact(p7 hv8)) (h:=by simp only[go_sem,hw8];rfl)
          refine p4 ?_
          obtain⟨hg9,hC0⟩:=oU hC0
          refine oS rL ?_ (hp:=by exact And.intro (fun hh=>hh) (And.intro (fun hh=>hh) (And.intro hg9 (And.intro (fun hh=>hh) ((fun hh=>pZ hh))))))
          obtain⟨y1,hC1,hC0⟩:=oY hC0
          refine y8 (fun s=>s=(fun x=>⟨[(5,(.val .ref (some (0,0)),none)),(6,(.val .ref (some (1,0)),none)),(7,(.val .ref (some (2,0)),none)),(10,(.val .ref (some (3,0)),none)),(11,(.val .ref (some (4,0)),none)),(12,(.val .ref (some (5,0)),none)),(13,(.val .ref (some (6,0)),none))],[(0,.cells rZ (O.1,(aM.1,(x.1,(x.2,((O.2.2.2.2.1.1,(O.2.2.2.2.1.2.1,(O.2.2.2.2.1.2.2.1,(O.2.2.2.2.1.2.2.2.1,())))),(O.2.2.2.2.2.1,())))))) []),(1,.cells uJ Z []),(2,.cells E2 aA []),(3,.cells rZ (([]:List UInt8),((0:Int),((0:Int),((0:Int),((([]:List UInt8),(([]:List (List UInt8)),(([]:List p9),(([]:List pX),())))),(([]:List Int),())))))) [(5,7),(6,8),(7,9),(8,10)]),(4,.cells uJ (([]:List UInt8),(([]:List UInt8),(([]:List UInt8),(([]:List (List UInt8)),(([]:List (List UInt8)),((0:Int),(([]:List p9),()))))))) [(3,11),(4,12),(6,13)]),(5,.cells E2 (false,(false,(false,()))) []),(6,.cells CJ (aM.2.2.2.1,(aM.2.2.2.2.1,(aM.2.2.2.2.2.1,(aM.2.2.2.2.2.2,())))) []),(7,.grow 9 1 (List.length ([]:List (List UInt8)))),(8,.grow 144 2 (List.length ([]:List p9))),(9,.grow 52 7 (List.length ([]:List pX))),(10,.grow 3 1 (List.length ([]:List Int))),(11,.grow 9 1 (List.length ([]:List (List UInt8)))),(12,.grow 9 1 (List.length ([]:List (List UInt8)))),(13,.grow 144 2 (List.length ([]:List p9)))],14,149,0⟩) y1) ?_ ?_
          ·refine oX hC1 (fun hC1 hc12=> ?_) (fun hC1 hc12=> ?_)
           ·obtain⟨aN,hw_49,hC1⟩:=rI hC1
            try simp only[go_sem] at hw_49
            refine pF rL ?_ (h:=by simp only[go_sem,hw_49];rfl)
            cases hC1
            exact rK ⟨⟨[5,6,7,10,11,12,13],[(0,0),(1,1),(2,2),(3,4),(4,5),(5,6),(6,7),(7,8),(8,9),(9,10),(10,11),(11,12),(12,13),(13,14)]⟩,by rfl⟩
           ·refine p6 ?_
            cases hC1
            exact rK ⟨⟨[5,6,7,10,11,12,13],[(0,0),(1,1),(2,2),(3,4),(4,5),(5,6),(6,7),(7,8),(8,9),(9,10),(10,11),(11,12),(12,13),(13,14)]⟩,by rfl⟩
          ·rintro _ rfl
           obtain⟨aO,aP⟩:=y1
           dsimp only at hC0⊢
           refine oW ?_
           obtain⟨aQ,hv10,hw10,hC0⟩:=p8 hC0
           try simp only[go_sem] at hw10
           refine pF rL ?_ (hp:=by exact(p7 hv10)) (h:=by simp only[go_sem,hw10];rfl)
           refine pB (oW ?_)
           refine qK rL ?_
           refine oV ?_
           cases hC0
           exact⟨[],by rfl,by rfl,by rfl⟩
         ·obtain⟨aR,hw_51,hC0⟩:=rI hC0
          try simp only[go_sem] at hw_51
          refine pF rL ?_ (h:=by simp only[go_sem,hw_51];rfl)
          refine pB (oW ?_)
          refine qK rL ?_
          refine oV ?_
          cases hC0
          exact⟨[],by rfl,by rfl,by rfl⟩
attribute [irreducible] sM
end
end Go.Proofs.YtfchbnahjcdiiaaGreatDoor
namespace Go.Proofs.YtfchbnahjcdiiaaGreatDoor
open Vc
set_option maxRecDepth 100000
set_option maxHeartbeats 4000000
set_option linter.unusedSimpArgs false
set_option linter.unusedVariables false
noncomputable section
def zA (O:((List UInt8)×(Int×Unit))):Option (Int×(List UInt8)×Int×Int×Int):=
 (EX O).bind fun Z=>
 if (!Z.1)=true then
  some (((0:Int),([]:List UInt8),Z.2,Z.2,Z.2))
 else
  if (decide (Z.2=(List.length O.1:Int)))=true then
   some (((4:Int),([]:List UInt8),Z.2,Z.2,Z.2))
  else
   if 0≤Z.2∧Z.2≤(List.length O.1:Int)∧(List.length O.1:Int)≤(List.length O.1:Int) then
    if 0≤(0:Int)∧(0:Int)<(List.length (oZ O.1 Z.2 (List.length O.1:Int)):Int) then
     if ((decide ((pA (oZ O.1 Z.2 (List.length O.1:Int)) (0:Int))=(123:Int)))||(decide ((pA (oZ O.1 Z.2 (List.length O.1:Int)) (0:Int))=(125:Int))))=true then
      if 0≤(0:Int)∧(0:Int)≤(1:Int)∧(1:Int)≤(List.length (oZ O.1 Z.2 (List.length O.1:Int)):Int) then
       if oT (Z.2+(1:Int)) then
        some (((3:Int),(oZ (oZ O.1 Z.2 (List.length O.1:Int)) (0:Int) (1:Int)),Z.2,(Z.2+(1:Int)),(Z.2+(1:Int))))
       else none
      else none
     else
      if (decide ((pA (oZ O.1 Z.2 (List.length O.1:Int)) (0:Int))=(34:Int)))=true then
       (D9 (oZ O.1 Z.2 (List.length O.1:Int)) Z.2).bind fun aA=>
       some ((aA.1,aA.2.1,Z.2,aA.2.2,aA.2.2))
      else
       if (((decide ((97:Int)≤(pA (oZ O.1 Z.2 (List.length O.1:Int)) (0:Int))))&&(decide ((pA (oZ O.1 Z.2 (List.length O.1:Int)) (0:Int))≤(122:Int))))||((decide ((65:Int)≤(pA (oZ O.1 Z.2 (List.length O.1:Int)) (0:Int))))&&(decide ((pA (oZ O.1 Z.2 (List.length O.1:Int)) (0:Int))≤(90:Int)))))=true then
        (GC (oZ O.1 Z.2 (List.length O.1:Int))).bind fun aB=>
        qD (σ:=Int) (
          if (decide (aB<(0:Int)))=true then
           some ((List.length (oZ O.1 Z.2 (List.length O.1:Int)):Int))
          else
           some (aB)
         ) fun aC=>
        if 0≤(0:Int)∧(0:Int)≤aC∧aC≤(List.length (oZ O.1 Z.2 (List.length O.1:Int)):Int) then
         if oT (Z.2+aC) then
          some (((2:Int),(oZ (oZ O.1 Z.2 (List.length O.1:Int)) (0:Int) aC),Z.2,(Z.2+aC),(Z.2+aC)))
         else none
        else none
       else
        some (((0:Int),([]:List UInt8),Z.2,Z.2,Z.2))
    else none
   else none
section
variable (O:((List UInt8)×(Int×Unit)))
@[reducible] def a1T:List Slot:=[(.val .ref (some (0,0)),none)]
@[reducible] def a1U:List Blk:=[.cells sC O []]
@[go_sem] def a1V:Ret:=⟨[((zA O)).isSome=true],[(.val CJ ((val (zA O)).1,((val (zA O)).2.1,((val (zA O)).2.2.1,((val (zA O)).2.2.2.1,())))),none)],[.cells sC (O.1,((val (zA O)).2.2.2.2,())) []]⟩
def aAN:List Slot→List Blk→Option Ret:=pM (V:=((List UInt8)×(Int×Unit))) (fun x=>a1T) (fun x=>a1U x) fun x=>a1V x
@[go_sem] theorem aMf:aAN (no_index a1T) (no_index (a1U O))=some (a1V O):=pN (fun a0 b0 h1 h2=>by cases h1;cases h2;rfl) O
end
@[reducible,go_sem] def a1W:Nat×Sig:=(40,⟨[.p sC []],aAN,[],[],none⟩)
theorem sV:Env Tryz.prog [s5,q7,KR,wR] (pE [aAf,aAK,UG,a9t]):=⟨⟨sG,⟨q9,⟨TT,⟨yB,trivial⟩⟩⟩⟩,p5 aGH (p5 aGT (p5 a7O (p5 aGo pP))),pH⟩
theorem aAO:pI Tryz.prog a1W:=by
 refine pO sV Tryz.func40 (c:=_) rfl (N:=87) (by kernel_rfl) (ts:=[(2,some 58)]) rfl (fun _ _=>rfl) ?_
 intro O hs hrow
 dsimp only[a1T,a1U,a1V,pJ,enumH,pD,pG,pL,Nat.reduceAdd] at hs hrow⊢
 have hz:=hs
 obtain⟨z0,hC0⟩:=Option.isSome_iff_exists.1 hz
 try rw[pW hC0]
 clear hz hs
 unfold zA at hC0
 refine oS sV ?_
 refine p4 ?_
 obtain⟨Z,hv1,hw1,hC0⟩:=p8 hC0
 try simp only[go_sem] at hw1
 refine oS sV ?_ (hp:=by exact(p7 hv1)) (h:=by simp only[go_sem,hw1];rfl)
 refine oX hC0 (fun hC0 hc1=> ?_) (fun hC0 hc1=> ?_)
 ·refine qK sV ?_
  refine oV (pC ?_)
  cases hC0
  exact⟨[(0,0)],by rfl,by rfl,by rfl⟩
 ·refine p6 (oW ?_)
  refine oS sV ?_
  refine p4 ?_
  refine oS sV ?_
  refine oX hC0 (fun hC0 hc2=> ?_) (fun hC0 hc2=> ?_)
  ·refine oS sV ?_
   refine oV (pC ?_)
   cases hC0
   exact⟨[(0,0)],by rfl,by rfl,by rfl⟩
  ·refine p6 (oW ?_)
   obtain⟨hg2,hC0⟩:=oU hC0
   refine oS sV ?_ (hp:=by exact hg2)
   refine oS sV ?_
   refine p4 ?_
   obtain⟨hg3,hC0⟩:=oU hC0
   refine oS sV ?_ (hp:=by exact hg3)
   refine pT ?_
   refine oS sV ?_ (hp:=by exact And.intro (fun hh=>hh) ((fun hh=>sF hh)))
   refine oX hC0 (fun hC0 hc3=> ?_) (fun hC0 hc3=> ?_)
   ·obtain⟨hg4,hC0⟩:=oU hC0
    obtain⟨hg5,hC0⟩:=oU hC0
    refine pF sV ?_ (hp:=by exact And.intro hg4 (hg5))
    refine pB (oW ?_)
    refine oS sV ?_
    refine oS sV ?_
    refine oV ?_
    cases hC0
    exact⟨[(0,0)],by rfl,by rfl,by rfl⟩
   ·refine oS sV ?_
    refine oX hC0 (fun hC0 hc4=> ?_) (fun hC0 hc4=> ?_)
    ·obtain⟨aA,hv6,hw6,hC0⟩:=p8 hC0
     try simp only[go_sem] at hw6
     refine pF sV ?_ (hp:=by exact(p7 hv6)) (h:=by simp only[go_sem,hw6];rfl)
     refine pB (oW ?_)
     refine oS sV ?_
     refine oS sV ?_
     refine oV ?_
     cases hC0
     exact⟨[(0,0)],by rfl,by rfl,by rfl⟩
    ·refine oS sV ?_
     refine oX hC0 (fun hC0 hc5=> ?_) (fun hC0 hc5=> ?_)
     ·obtain⟨aB,hv7,hw7,hC0⟩:=p8 hC0
      try simp only[go_sem] at hw7
      refine oS sV ?_ (hp:=by exact(p7 hv7)) (h:=by simp only[go_sem,hw7];rfl)
      refine p4 ?_
      refine oS sV ?_
      obtain⟨aC,hC1,hC0⟩:=oY hC0
      refine y8 (fun s=>s=(fun x=>⟨[(0,(.val .ref (some (0,0)),none)),(2,(.val .ref (some (1,0)),none)),(3,(.val (.int .i64) Z.2,none)),(4,(.val .str (oZ O.1 Z.2 (List.length O.1:Int)),none)),(5,(.val .ref (some (2,0)),none)),(7,(.val (.int .i64) x,none))],[(0,.cells sC (O.1,(Z.2,())) []),(1,.cells CJ ((0:Int),(([]:List UInt8),((0:Int),((0:Int),())))) []),(2,.cells CJ ((0:Int),(([]:List UInt8),(Z.2,(Z.2,())))) [])],3,87,1⟩) aC) ?_ ?_
      ·refine oX hC1 (fun hC1 hc6=> ?_) (fun hC1 hc6=> ?_)
       ·refine pF sV ?_
        cases hC1
        exact rK ⟨⟨[0,2,3,4,5,7],[(0,0),(1,1),(2,417)]⟩,by rfl⟩
       ·refine p6 ?_
        cases hC1
        exact rK ⟨⟨[0,2,3,4,5,7],[(0,0),(1,1),(2,417)]⟩,by rfl⟩
      ·rintro _ rfl
       dsimp only at hC0⊢
       refine oW ?_
       obtain⟨hg8,hC0⟩:=oU hC0
       obtain⟨hg9,hC0⟩:=oU hC0
       refine pF sV ?_ (hp:=by exact And.intro hg8 (hg9))
       refine pB (oW ?_)
       refine oS sV ?_
       refine oS sV ?_
       refine oV ?_
       cases hC0
       exact⟨[(0,0)],by rfl,by rfl,by rfl⟩
     ·refine p6 (pB (oW ?_))
      refine oS sV ?_
      refine oS sV ?_
      refine oV ?_
      cases hC0
      exact⟨[(0,0)],by rfl,by rfl,by rfl⟩
attribute [irreducible] zA
def zT (O:tD) (Z:pX) (aA:Bool):(Int×Int×Int×(List UInt8)×(List UInt8)×(List (List UInt8))×(List (List UInt8))×Int×(List p9)×Bool×Bool×Bool)→Option ((Int×Int×Int×(List UInt8)×(List UInt8)×(List (List UInt8))×(List (List UInt8))×Int×(List p9)×Bool×Bool×Bool)⊕((Int×Int×Int×(List UInt8)×(List UInt8)×(List (List UInt8))×(List (List UInt8))×Int×(List p9))⊕(Int×Int×Int×(List Int)×(List UInt8)×(List UInt8)×(List (List UInt8))×(List (List UInt8))×Int×(List p9)))):=fun(aB,aC,aD,aE,aF,aG,aH,aI,aJ,aK,aL,aM)=>
 if (decide (aD=(0:Int)))=true then
  (zS O.1 aB).bind fun aN=>
  if ((decide (aN.1=(3:Int)))&&(decide (aN.2.1=([125]:List UInt8))))=true then
   if (List.length ([]:List Int)+List.length O.2.2.2.2.2.1)*8≤140737488355328 then
    if (List.length (([]:List Int)++O.2.2.2.2.2.1)+List.length ([aN.2.2.2]:List Int))*8≤140737488355328 then
     some (.inr (.inr ((aN.2.2.2,aC,aD,((([]:List Int)++O.2.2.2.2.2.1)++([aN.2.2.2]:List Int)),aE,aF,aG,aH,aI,aJ))))
    else none
   else none
  else
   if (!decide (aN.1=(2:Int)))=true then
    q6 (tQ (O.1,(aB,(aC,(aD,((O.2.2.2.2.1.1,(O.2.2.2.2.1.2.1,(O.2.2.2.2.1.2.2.1,(O.2.2.2.2.1.2.2.2.1,())))),(O.2.2.2.2.2.1,())))))) (aN.1,(aN.2.1,(aN.2.2.1,(aN.2.2.2,())))) (3:Int)) fun aO=>
    some (.inr (.inr ((aB,aO.1,aO.2,O.2.2.2.2.2.1,aE,aF,aG,aH,aI,aJ))))
   else
    (sM (O.1,(aN.2.2.2,(aC,(aD,((O.2.2.2.2.1.1,(O.2.2.2.2.1.2.1,(O.2.2.2.2.1.2.2.1,(O.2.2.2.2.1.2.2.2.1,())))),(O.2.2.2.2.2.1,())))))) (Z.1,(aE,(aF,(aG,(aH,(aI,(aJ,()))))))) (aK,(aL,(aM,()))) (aN.1,(aN.2.1,(aN.2.2.1,(aN.2.2.2,())))) aA).bind fun aP=>
    some (.inl (aP.1,aP.2.1,aP.2.2.1,aP.2.2.2.1,aP.2.2.2.2.1,aP.2.2.2.2.2.1,aP.2.2.2.2.2.2.1,aP.2.2.2.2.2.2.2.1,aP.2.2.2.2.2.2.2.2.1,aP.2.2.2.2.2.2.2.2.2.1,aP.2.2.2.2.2.2.2.2.2.2.1,aP.2.2.2.2.2.2.2.2.2.2.2))
 else
  some (.inr (.inl (aB,aC,aD,aE,aF,aG,aH,aI,aJ)))
def uY (O:tD) (Z:pX) (aA:Bool):Option (Int×Int×Int×(List Int)×(List UInt8)×(List UInt8)×(List (List UInt8))×(List (List UInt8))×Int×(List p9)):=
 (sU O (3:Int) ([123]:List UInt8)).bind fun aB=>
 qT (pR (zT O Z aA) (aB.1,aB.2.1,aB.2.2.1,Z.2.1,Z.2.2.1,Z.2.2.2.1,Z.2.2.2.2.1,Z.2.2.2.2.2.1,Z.2.2.2.2.2.2.1,false,false,false)) fun(aC,aD,aE,aF,aG,aH,aI,aJ,aK)=>
 some ((aC,aD,aE,O.2.2.2.2.2.1,aF,aG,aH,aI,aJ,aK))
section
variable (O:tD) (Z:pX) (aA:Bool)
@[reducible] def a1X:List Slot:=[(.val rZ O,none),(.val uJ Z,none),(.val .bool aA,none)]
@[reducible] def a1Y:List Blk:=[]
@[go_sem] def a1Z:Ret:=⟨[((uY O Z aA)).isSome=true],[(.val rZ (O.1,((val (uY O Z aA)).1,((val (uY O Z aA)).2.1,((val (uY O Z aA)).2.2.1,((O.2.2.2.2.1.1,(O.2.2.2.2.1.2.1,(O.2.2.2.2.1.2.2.1,(O.2.2.2.2.1.2.2.2.1,())))),((val (uY O Z aA)).2.2.2.1,())))))),none),(.val uJ (Z.1,((val (uY O Z aA)).2.2.2.2.1,((val (uY O Z aA)).2.2.2.2.2.1,((val (uY O Z aA)).2.2.2.2.2.2.1,((val (uY O Z aA)).2.2.2.2.2.2.2.1,((val (uY O Z aA)).2.2.2.2.2.2.2.2.1,((val (uY O Z aA)).2.2.2.2.2.2.2.2.2,()))))))),none)],[]⟩
def aAP:List Slot→List Blk→Option Ret:=pM (V:=(tD×pX×Bool)) (fun x=>a1X x.1 x.2.1 x.2.2) (fun x=>a1Y) fun x=>a1Z x.1 x.2.1 x.2.2
@[go_sem] theorem aMg:aAP (no_index (a1X O Z aA)) (no_index a1Y)=some (a1Z O Z aA):=pN (fun⟨a0,a1,a2⟩ ⟨b0,b1,b2⟩ h1 h2=>by cases h1;cases h2;rfl) (O,Z,aA)
end
@[reducible,go_sem] def a2a:Nat×Sig:=(79,⟨[.v,.v,.v],aAP,[],[],none⟩)
theorem xN:Env Tryz.prog [s5,q7,vH,yU,AL,AF,AG,OS] (pE [GJ,a1q,EA,aAM]):=⟨⟨sG,⟨q9,⟨wQ,⟨AI,⟨CP,⟨CL,⟨CM,⟨a7u,trivial⟩⟩⟩⟩⟩⟩⟩⟩,p5 IH (p5 aAu (p5 G4 (p5 aGU pP))),pH⟩
theorem aAQ:pI Tryz.prog a2a:=by
 refine pO xN Tryz.func79 (c:=_) rfl (N:=67) (by kernel_rfl) (ts:=[(6,some 91),(7,some 52)]) rfl (fun _ _=>rfl) ?_
 intro⟨O,Z,aA⟩ hs hrow
 dsimp only[a1X,a1Y,a1Z,pJ,enumH,pD,pG,pL,Nat.reduceAdd] at hs hrow⊢
 have hz:=hs
 obtain⟨z0,hC0⟩:=Option.isSome_iff_exists.1 hz
 try rw[pW hC0]
 clear hz hs
 unfold uY at hC0
 refine oS xN ?_
 obtain⟨aB,hv1,hw1,hC0⟩:=p8 hC0
 try simp only[go_sem] at hw1
 refine oS xN ?_ (hp:=by exact(p7 hv1)) (h:=by simp only[go_sem,hw1];rfl)
 refine oS xN ?_
 refine p4 (pT ?_)
 obtain⟨y1,hy1,hC0⟩:=sX hC0
 refine rH 0 (fun s=> ∃v,y1= .inl v∧s=(fun x=>⟨[(3,(.val .ref (some (0,0)),none)),(4,(.val .ref (some (1,0)),none)),(6,(.val .ref (some (2,0)),none)),(7,(.val .ref (some (3,0)),none))],[(0,.cells rZ (O.1,(x.1,(x.2.1,(x.2.2.1,((O.2.2.2.2.1.1,(O.2.2.2.2.1.2.1,(O.2.2.2.2.1.2.2.1,(O.2.2.2.2.1.2.2.2.1,())))),(O.2.2.2.2.2.1,())))))) []),(1,.cells uJ (Z.1,(x.2.2.2.1,(x.2.2.2.2.1,(x.2.2.2.2.2.1,(x.2.2.2.2.2.2.1,(x.2.2.2.2.2.2.2.1,(x.2.2.2.2.2.2.2.2,()))))))) []),(2,.cells rZ (([]:List UInt8),((0:Int),((0:Int),((0:Int),((([]:List UInt8),(([]:List (List UInt8)),(([]:List p9),(([]:List pX),())))),(([]:List Int),())))))) [(5,4),(6,5),(7,6),(8,7)]),(3,.cells uJ (([]:List UInt8),(([]:List UInt8),(([]:List UInt8),(([]:List (List UInt8)),(([]:List (List UInt8)),((0:Int),(([]:List p9),()))))))) [(3,8),(4,9),(6,10)]),(4,.grow 9 1 (List.length ([]:List (List UInt8)))),(5,.grow 144 2 (List.length ([]:List p9))),(6,.grow 52 7 (List.length ([]:List pX))),(7,.grow 3 1 (List.length ([]:List Int))),(8,.grow 9 1 (List.length ([]:List (List UInt8)))),(9,.grow 9 1 (List.length ([]:List (List UInt8)))),(10,.grow 144 2 (List.length ([]:List p9)))],11,67,0⟩) v) ?_ ?_
 ·refine rG hy1 (fun x=>⟨[(2,(.val .bool aA,none)),(3,(.val .ref (some (0,0)),none)),(4,(.val .ref (some (1,0)),none)),(6,(.val .ref (some (2,0)),none)),(7,(.val .ref (some (3,0)),none)),(8,(.val .ref (some (4,0)),none))],[(0,.cells rZ (O.1,(x.1,(x.2.1,(x.2.2.1,((O.2.2.2.2.1.1,(O.2.2.2.2.1.2.1,(O.2.2.2.2.1.2.2.1,(O.2.2.2.2.1.2.2.2.1,())))),(O.2.2.2.2.2.1,())))))) []),(1,.cells uJ (Z.1,(x.2.2.2.1,(x.2.2.2.2.1,(x.2.2.2.2.2.1,(x.2.2.2.2.2.2.1,(x.2.2.2.2.2.2.2.1,(x.2.2.2.2.2.2.2.2.1,()))))))) []),(2,.cells rZ (([]:List UInt8),((0:Int),((0:Int),((0:Int),((([]:List UInt8),(([]:List (List UInt8)),(([]:List p9),(([]:List pX),())))),(([]:List Int),())))))) [(5,5),(6,6),(7,7),(8,8)]),(3,.cells uJ (([]:List UInt8),(([]:List UInt8),(([]:List UInt8),(([]:List (List UInt8)),(([]:List (List UInt8)),((0:Int),(([]:List p9),()))))))) [(3,9),(4,10),(6,11)]),(4,.cells E2 (x.2.2.2.2.2.2.2.2.2.1,(x.2.2.2.2.2.2.2.2.2.2.1,(x.2.2.2.2.2.2.2.2.2.2.2,()))) []),(5,.grow 9 1 (List.length ([]:List (List UInt8)))),(6,.grow 144 2 (List.length ([]:List p9))),(7,.grow 52 7 (List.length ([]:List pX))),(8,.grow 3 1 (List.length ([]:List Int))),(9,.grow 9 1 (List.length ([]:List (List UInt8)))),(10,.grow 9 1 (List.length ([]:List (List UInt8)))),(11,.grow 144 2 (List.length ([]:List p9)))],12,67,0⟩) ⟨[2,3,4,6,7,8],[(0,0),(1,16),(2,32),(3,48),(4,160),(5,33),(6,34),(7,35),(8,36),(9,49),(10,50),(11,51)]⟩ (by rfl) ?_
  intro x1 w1 n1 hC1 hN1
  obtain⟨aC,aD,aE,aF,aG,aH,aI,aJ,aK,aL,aM,aN⟩:=x1
  unfold zT at hC1
  dsimp only at hC1⊢
  refine p4 ?_
  refine oS xN ?_
  refine oX hC1 (fun hC1 hc1=> ?_) (fun hC1 hc1=> ?_)
  ·refine p6 (oW (pT ?_))
   obtain⟨aO,hv2,hw2,hC1⟩:=p8 hC1
   try simp only[go_sem] at hw2
   refine oS xN ?_ (hp:=by exact(p7 hv2)) (h:=by simp only[go_sem,hw2];rfl)
   refine p4 ?_
   refine oS xN ?_ (hp:=by exact And.intro (fun hh=>hh) (And.intro (fun hh=>hh) ((fun hh=>pZ hh))))
   refine oX hC1 (fun hC1 hc2=> ?_) (fun hC1 hc2=> ?_)
   ·refine oS xN ?_
    obtain⟨hg3,hC1⟩:=oU hC1
    obtain⟨hg4,hC1⟩:=oU hC1
    refine qK xN ?_ (hp:=by exact And.intro (by first|exact rfl|exact trivial) (And.intro hg3 (And.intro (by first|exact rfl|exact trivial) (hg4))))
    refine qK xN ?_
    refine oV (pC (pS (sK (sJ (pS (pC ?_))))))
    cases hC1
    cases hN1
    dsimp only at hC0
    cases hC0
    exact⟨[],by rfl,by rfl,by rfl⟩
   ·refine p6 (oW (p4 ?_))
    refine oS xN ?_
    refine oX hC1 (fun hC1 hc3=> ?_) (fun hC1 hc3=> ?_)
    ·obtain⟨aP,hw_128,hC1⟩:=rI hC1
     try simp only[go_sem] at hw_128
     refine qK xN ?_ (h:=by simp only[go_sem,hw_128];rfl)
     refine oV (pC (pS (sK (sJ (pS (pC ?_))))))
     cases hC1
     cases hN1
     dsimp only at hC0
     cases hC0
     exact⟨[],by rfl,by rfl,by rfl⟩
    ·refine p6 (oW ?_)
     refine oS xN ?_
     obtain⟨aQ,hv5,hw5,hC1⟩:=p8 hC1
     try simp only[go_sem] at hw5
     refine pF xN ?_ (hp:=by exact(p7 hv5)) (h:=by simp only[go_sem,hw5];rfl)
     refine pB ?_
     cases hC1
     exact qG ⟨⟨[2,3,4,6,7,8],[(0,0),(1,1),(2,2),(3,3),(4,4),(5,5),(6,6),(7,7),(8,8),(9,9),(10,10),(11,11)]⟩,_,by rfl,hN1⟩
  ·refine qW (r7 (qZ ?_))
   cases hC1
   cases hN1
   exact qY ⟨⟨[3,4,6,7],[(0,0),(1,1),(2,2),(3,3),(4,5),(5,6),(6,7),(7,8),(8,9),(9,10),(10,11)]⟩,_,rfl,by rfl⟩
 ·rintro _ ⟨v,rfl,rfl⟩
  obtain⟨aR,aS,aT,aU,aV,aW,aX,aY,aZ⟩:=v
  dsimp only at hC0⊢
  refine rE (oW ?_)
  refine qK xN ?_
  refine oV ?_
  cases hC0
  exact⟨[],by rfl,by rfl,by rfl⟩
attribute [irreducible] uY
end
end Go.Proofs.YtfchbnahjcdiiaaGreatDoor
namespace Go.Proofs.YtfchbnahjcdiiaaGreatDoor
open Vc
set_option maxRecDepth 100000
set_option maxHeartbeats 4000000
set_option linter.unusedSimpArgs false
set_option linter.unusedVariables false
noncomputable section
def qP (O:((List UInt8)×(Int×Unit))) (Z:qA) (aA:Int) (aB:Int) (aC:qB) (aD:((List Int)×(Int×Unit))) (aE:(List ((List UInt8)×Bool))):Option (Int×Int×(List UInt8)×Int×Int×Int):=
 if (decide (aB=(0:Int)))=true then
  (zA O).bind fun aF=>
  some ((aF.2.2.2.2,aF.1,aF.2.1,aF.2.2.1,aF.2.2.2.1,Z.2.2.2.1))
 else
  some ((O.2.1,Z.1,Z.2.1,Z.2.2.1,Z.2.2.2.1,aD.2.1))
section
variable (O:((List UInt8)×(Int×Unit))) (Z:qA) (aA:Int) (aB:Int) (aC:qB) (aD:((List Int)×(Int×Unit))) (aE:Nat) (aF:Nat) (aG:(List ((List UInt8)×Bool)))
@[reducible] def a2b:List Slot:=[(.val .ref (some (0,0)),none)]
@[reducible] def a2c:List Blk:=[.cells q8 (O,(Z,(aA,(aB,(aC,((some 3),aD)))))) [(11,1),(13,2)],.grow 52 7 aE,.grow 3 1 aF,.map .str .bool aG]
@[go_sem] def a2d:Ret:=⟨[aE=(List.length aC.2.2.2.1),aF=(List.length aD.1),((qP O Z aA aB aC aD aG)).isSome=true],[],[.cells q8 ((O.1,((val (qP O Z aA aB aC aD aG)).1,())),(((val (qP O Z aA aB aC aD aG)).2.1,((val (qP O Z aA aB aC aD aG)).2.2.1,((val (qP O Z aA aB aC aD aG)).2.2.2.1,((val (qP O Z aA aB aC aD aG)).2.2.2.2.1,())))),(aA,(aB,((aC.1,(aC.2.1,(aC.2.2.1,(aC.2.2.2.1,())))),((some 3),(aD.1,((val (qP O Z aA aB aC aD aG)).2.2.2.2.2,())))))))) [(11,1),(13,2)],.grow 52 7 (List.length aC.2.2.2.1),.grow 3 1 (List.length aD.1),.map .str .bool aG]⟩
def aAR:List Slot→List Blk→Option Ret:=pM (V:=(((List UInt8)×(Int×Unit))×qA×Int×Int×qB×((List Int)×(Int×Unit))×Nat×Nat×(List ((List UInt8)×Bool)))) (fun x=>a2b) (fun x=>a2c x.1 x.2.1 x.2.2.1 x.2.2.2.1 x.2.2.2.2.1 x.2.2.2.2.2.1 x.2.2.2.2.2.2.1 x.2.2.2.2.2.2.2.1 x.2.2.2.2.2.2.2.2) fun x=>a2d x.1 x.2.1 x.2.2.1 x.2.2.2.1 x.2.2.2.2.1 x.2.2.2.2.2.1 x.2.2.2.2.2.2.1 x.2.2.2.2.2.2.2.1 x.2.2.2.2.2.2.2.2
@[go_sem] theorem aMh:aAR (no_index a2b) (no_index (a2c O Z aA aB aC aD aE aF aG))=some (a2d O Z aA aB aC aD aE aF aG):=pN (fun⟨a0,a1,a2,a3,a4,a5,a6,a7,a8⟩ ⟨b0,b1,b2,b3,b4,b5,b6,b7,b8⟩ h1 h2=>by cases h1;cases h2;rfl) (O,Z,aA,aB,aC,aD,aE,aF,aG)
end
@[reducible,go_sem] def vK:Nat×Sig:=(115,⟨[.p q8 [11,13]],aAR,[(0,12,.m)],[1,2,3],none⟩)
theorem P5:Env Tryz.prog [s5,vH,wR,uV] (pE [a1W]):=⟨⟨sG,⟨wQ,⟨yB,⟨w6,trivial⟩⟩⟩⟩,p5 aAO pP,pH⟩
theorem AR:pI Tryz.prog vK:=by
 refine pO P5 Tryz.func115 (c:=_) rfl (N:=22) (by kernel_rfl) (ts:=[]) rfl (fun _ _=>rfl) ?_
 intro⟨O,Z,aA,aB,aC,aD,aE,aF,aG⟩ hs hrow
 dsimp only[a2b,a2c,a2d,pJ,enumH,pD,pG,pL,Nat.reduceAdd] at hs hrow⊢
 obtain⟨rfl,rfl,hz⟩:=hs
 obtain⟨z0,hC0⟩:=Option.isSome_iff_exists.1 hz
 try rw[pW hC0]
 clear hz
 unfold qP at hC0
 refine oS P5 ?_
 refine oX hC0 (fun hC0 hc1=> ?_) (fun hC0 hc1=> ?_)
 ·refine oS P5 ?_
  obtain⟨aH,hv1,hw1,hC0⟩:=p8 hC0
  try simp only[go_sem] at hw1
  refine pF P5 ?_ (hp:=by exact(p7 hv1)) (h:=by simp only[go_sem,hw1];rfl)
  cases hC0
  exact⟨[(0,0),(1,1),(2,2),(3,3)],by rfl,by rfl,by rfl⟩
 ·refine p6 ?_
  cases hC0
  exact⟨[(0,0),(1,1),(2,2),(3,3)],by rfl,by rfl,by rfl⟩
attribute [irreducible] qP
def vL (O:((List UInt8)×(Int×Unit))) (Z:qA) (aA:Int) (aB:Int) (aC:qB) (aD:((List Int)×(Int×Unit))) (aE:(List UInt8)) (aF:(List UInt8)) (aG:(List UInt8)) (aH:(List (List UInt8))) (aI:(Int×((List p9)×Unit))) (aJ:Bool) (aK:(List ((List UInt8)×Bool))) (aL:(List (List UInt8))) (aM:(List ((List UInt8)×Bool))):Option (Int×Int×(List UInt8)×Int×Int×Int×Int×Int):=
 qD (σ:=(Int×Int)) (
   if (qE .str .bool aM Z.2.1)=true then
    q6 (s7 O Z aA aB aC aD (9:Int) aK) fun aN=>
    some ((aN.1,aN.2))
   else
    some ((aA,aB))
  ) fun(aO,aP)=>
 (qP (O.1,(O.2.1,())) (Z.1,(Z.2.1,(Z.2.2.1,(Z.2.2.2.1,())))) aO aP (aC.1,(aC.2.1,(aC.2.2.1,(aC.2.2.2.1,())))) (aD.1,(aD.2.1,())) aK).bind fun aQ=>
 some ((aQ.1,aQ.2.1,aQ.2.2.1,aQ.2.2.2.1,aQ.2.2.2.2.1,aO,aP,aQ.2.2.2.2.2))
section
variable (O:((List UInt8)×(Int×Unit))) (Z:qA) (aA:Int) (aB:Int) (aC:qB) (aD:((List Int)×(Int×Unit))) (aE:Nat) (aF:Nat) (aG:(List UInt8)) (aH:(List UInt8)) (aI:(List UInt8)) (aJ:(List (List UInt8))) (aK:Nat) (aL:(Int×((List p9)×Unit))) (aM:Bool) (aN:Nat) (aO:Nat) (aP:(List ((List UInt8)×Bool))) (aQ:(List (List UInt8))) (aR:Nat) (aS:(List ((List UInt8)×Bool)))
@[reducible] def a2e:List Slot:=[(.val .ref (some (0,0)),none),(.val .ref (some (3,0)),none)]
@[reducible] def a2f:List Blk:=[.cells q8 (O,(Z,(aA,(aB,(aC,((some 6),aD)))))) [(11,1),(13,2)],.grow 52 7 aE,.grow 3 1 aF,.cells r8 ((aG,(aH,(aI,(aJ,((some (7,aK)),aL))))),(aM,((some 8),()))) [(3,4),(6,5)],.grow 9 1 aN,.grow 144 2 aO,.map .str .bool aP,.row 9 .str aQ aR,.map .str .bool aS]
@[go_sem] def a2g:Ret:=⟨[aE=(List.length aC.2.2.2.1),aF=(List.length aD.1),aN=(List.length aJ),aO=(List.length aL.2.1),aK=aR,((vL O Z aA aB aC aD aG aH aI aJ aL aM aP aQ aS)).isSome=true],[],[.cells q8 ((O.1,((val (vL O Z aA aB aC aD aG aH aI aJ aL aM aP aQ aS)).1,())),(((val (vL O Z aA aB aC aD aG aH aI aJ aL aM aP aQ aS)).2.1,((val (vL O Z aA aB aC aD aG aH aI aJ aL aM aP aQ aS)).2.2.1,((val (vL O Z aA aB aC aD aG aH aI aJ aL aM aP aQ aS)).2.2.2.1,((val (vL O Z aA aB aC aD aG aH aI aJ aL aM aP aQ aS)).2.2.2.2.1,())))),((val (vL O Z aA aB aC aD aG aH aI aJ aL aM aP aQ aS)).2.2.2.2.2.1,((val (vL O Z aA aB aC aD aG aH aI aJ aL aM aP aQ aS)).2.2.2.2.2.2.1,((aC.1,(aC.2.1,(aC.2.2.1,(aC.2.2.2.1,())))),((some 6),(aD.1,((val (vL O Z aA aB aC aD aG aH aI aJ aL aM aP aQ aS)).2.2.2.2.2.2.2,())))))))) [(11,1),(13,2)],.grow 52 7 (List.length aC.2.2.2.1),.grow 3 1 (List.length aD.1),.cells r8 ((aG,(aH,(aI,(aJ,((some (7,(List.length aQ))),(aL.1,(aL.2.1,()))))))),(aM,((some 8),()))) [(3,4),(6,5)],.grow 9 1 (List.length aJ),.grow 144 2 (List.length aL.2.1),.map .str .bool aP,.row 9 .str aQ (List.length aQ),.map .str .bool (rB .str .bool Z.2.1 true aS)]⟩
def aAS:List Slot→List Blk→Option Ret:=pM (V:=(((List UInt8)×(Int×Unit))×qA×Int×Int×qB×((List Int)×(Int×Unit))×Nat×Nat×(List UInt8)×(List UInt8)×(List UInt8)×(List (List UInt8))×Nat×(Int×((List p9)×Unit))×Bool×Nat×Nat×(List ((List UInt8)×Bool))×(List (List UInt8))×Nat×(List ((List UInt8)×Bool)))) (fun x=>a2e) (fun x=>a2f x.1 x.2.1 x.2.2.1 x.2.2.2.1 x.2.2.2.2.1 x.2.2.2.2.2.1 x.2.2.2.2.2.2.1 x.2.2.2.2.2.2.2.1 x.2.2.2.2.2.2.2.2.1 x.2.2.2.2.2.2.2.2.2.1 x.2.2.2.2.2.2.2.2.2.2.1 x.2.2.2.2.2.2.2.2.2.2.2.1 x.2.2.2.2.2.2.2.2.2.2.2.2.1 x.2.2.2.2.2.2.2.2.2.2.2.2.2.1 x.2.2.2.2.2.2.2.2.2.2.2.2.2.2.1 x.2.2.2.2.2.2.2.2.2.2.2.2.2.2.2.1 x.2.2.2.2.2.2.2.2.2.2.2.2.2.2.2.2.1 x.2.2.2.2.2.2.2.2.2.2.2.2.2.2.2.2.2.1 x.2.2.2.2.2.2.2.2.2.2.2.2.2.2.2.2.2.2.1 x.2.2.2.2.2.2.2.2.2.2.2.2.2.2.2.2.2.2.2.1 x.2.2.2.2.2.2.2.2.2.2.2.2.2.2.2.2.2.2.2.2) fun x=>a2g x.1 x.2.1 x.2.2.1 x.2.2.2.1 x.2.2.2.2.1 x.2.2.2.2.2.1 x.2.2.2.2.2.2.1 x.2.2.2.2.2.2.2.1 x.2.2.2.2.2.2.2.2.1 x.2.2.2.2.2.2.2.2.2.1 x.2.2.2.2.2.2.2.2.2.2.1 x.2.2.2.2.2.2.2.2.2.2.2.1 x.2.2.2.2.2.2.2.2.2.2.2.2.1 x.2.2.2.2.2.2.2.2.2.2.2.2.2.1 x.2.2.2.2.2.2.2.2.2.2.2.2.2.2.1 x.2.2.2.2.2.2.2.2.2.2.2.2.2.2.2.1 x.2.2.2.2.2.2.2.2.2.2.2.2.2.2.2.2.1 x.2.2.2.2.2.2.2.2.2.2.2.2.2.2.2.2.2.1 x.2.2.2.2.2.2.2.2.2.2.2.2.2.2.2.2.2.2.1 x.2.2.2.2.2.2.2.2.2.2.2.2.2.2.2.2.2.2.2.1 x.2.2.2.2.2.2.2.2.2.2.2.2.2.2.2.2.2.2.2.2
@[go_sem] theorem aMi:aAS (no_index a2e) (no_index (a2f O Z aA aB aC aD aE aF aG aH aI aJ aK aL aM aN aO aP aQ aR aS))=some (a2g O Z aA aB aC aD aE aF aG aH aI aJ aK aL aM aN aO aP aQ aR aS):=pN (fun⟨a0,a1,a2,a3,a4,a5,a6,a7,a8,a9,a10,a11,a12,a13,a14,a15,a16,a17,a18,a19,a20⟩ ⟨b0,b1,b2,b3,b4,b5,b6,b7,b8,b9,b10,b11,b12,b13,b14,qI,b16,b17,b18,b19,b20⟩ h1 h2=>by cases h1;cases h2;rfl) (O,Z,aA,aB,aC,aD,aE,aF,aG,aH,aI,aJ,aK,aL,aM,aN,aO,aP,aQ,aR,aS)
end
@[reducible,go_sem] def GK:Nat×Sig:=(189,⟨[.p q8 [11,13],.p r8 [3,6]],aAS,[(0,12,.m),(3,4,.r),(3,8,.m)],[1,2,3,4,5,6,7],none⟩)
theorem aAT:Env Tryz.prog [] (pE [wT,vK]):=⟨trivial,p5 BK (p5 AR pP),pH⟩
theorem P6:Env Tryz.prog [BH,q7,wR,G1,uV,yV] (pE [wT,vK]):=⟨⟨E4,⟨q9,⟨yB,⟨KP,⟨w6,⟨AK,trivial⟩⟩⟩⟩⟩⟩,aAT.Γ,pH⟩
theorem a2h:pI Tryz.prog GK:=by
 refine pO aAT Tryz.func189 (c:=_) rfl (N:=27) (by kernel_rfl) (ts:=[]) rfl (fun _ _=>rfl) ?_
 intro⟨O,Z,aA,aB,aC,aD,aE,aF,aG,aH,aI,aJ,aK,aL,aM,aN,aO,aP,aQ,aR,aS⟩ hs hrow
 dsimp only[a2e,a2f,a2g,pJ,enumH,pD,pG,pL,Nat.reduceAdd] at hs hrow⊢
 obtain⟨rfl,rfl,rfl,rfl,rfl,hz⟩:=hs
 obtain⟨rfl,_⟩:=hrow
 obtain⟨z0,hC0⟩:=Option.isSome_iff_exists.1 hz
 try rw[pW hC0]
 clear hz
 unfold vL at hC0
 refine p4 ?_
 refine qK P6 ?_
 obtain⟨y1,hC1,hC0⟩:=oY hC0
 refine y8 (fun s=>s=(fun x=>⟨[(0,(.val .ref (some (0,0)),none)),(1,(.val .ref (some (3,0)),none))],[(0,.cells q8 ((O.1,(O.2.1,())),((Z.1,(Z.2.1,(Z.2.2.1,(Z.2.2.2.1,())))),(x.1,(x.2,((aC.1,(aC.2.1,(aC.2.2.1,(aC.2.2.2.1,())))),((some 6),(aD.1,(aD.2.1,())))))))) [(11,1),(13,2)]),(1,.grow 52 7 (List.length aC.2.2.2.1)),(2,.grow 3 1 (List.length aD.1)),(3,.cells r8 ((aG,(aH,(aI,(aJ,((some (7,(List.length aQ))),(aL.1,(aL.2.1,()))))))),(aM,((some 8),()))) [(3,4),(6,5)]),(4,.grow 9 1 (List.length aJ)),(5,.grow 144 2 (List.length aL.2.1)),(6,.map .str .bool aP),(7,.row 9 .str aQ (List.length aQ)),(8,.map .str .bool aS)],9,27,9⟩) y1) ?_ ?_
 ·refine oX hC1 (fun hC1 hc1=> ?_) (fun hC1 hc1=> ?_)
  ·obtain⟨aT,hw_38,hC1⟩:=rI hC1
   try simp only[go_sem] at hw_38
   refine pF P6 ?_ (hp:=by exact And.intro (by first|exact rfl|exact trivial) (And.intro (by first|exact rfl|exact trivial) (And.intro (by first|exact rfl|exact trivial) (And.intro (by first|exact rfl|exact trivial) ((by first|exact rfl|exact trivial)))))) (h:=by simp only[go_sem,hw_38];rfl)
   cases hC1
   exact rK ⟨⟨[0,1],[(0,0),(1,1),(2,2),(3,3),(4,4),(5,5),(6,6),(7,7),(8,8)]⟩,by rfl⟩
  ·refine p6 ?_
   cases hC1
   exact rK ⟨⟨[0,1],[(0,0),(1,1),(2,2),(3,3),(4,4),(5,5),(6,6),(7,7),(8,8)]⟩,by rfl⟩
 ·rintro _ rfl
  obtain⟨aU,aV⟩:=y1
  dsimp only at hC0⊢
  refine oW ?_
  refine qK P6 ?_
  obtain⟨aW,hv1,hw1,hC0⟩:=p8 hC0
  try simp only[go_sem] at hw1
  refine pF P6 ?_ (hp:=by exact And.intro (by first|exact rfl|exact trivial) (And.intro (by first|exact rfl|exact trivial) (And.intro (by first|exact rfl|exact trivial) (And.intro (by first|exact rfl|exact trivial) (And.intro (by first|exact rfl|exact trivial) ((p7 hv1))))))) (h:=by simp only[go_sem,hw1];rfl)
  cases hC0
  exact⟨[(0,0),(1,1),(2,2),(3,3),(4,4),(5,5),(6,6),(7,7),(8,8)],by rfl,by rfl,by rfl⟩
attribute [irreducible] vL
def yE (O:tD):Option (Int×Int×Int×(List UInt8)×(List (List UInt8))×(List p9)×(List Int)):=
 (sU O (2:Int) ([99,97,116,97,108,111,103]:List UInt8)).bind fun Z=>
 (sU (O.1,(Z.1,(Z.2.1,(Z.2.2.1,((O.2.2.2.2.1.1,(O.2.2.2.2.1.2.1,(O.2.2.2.2.1.2.2.1,(O.2.2.2.2.1.2.2.2.1,())))),(O.2.2.2.2.2.1,())))))) (1:Int) ([]:List UInt8)).bind fun aA=>
 if (((decide (aA.2.2.1=(0:Int)))==true)=true→((EM aA.2.2.2.2.1)).isSome=true) then
  qD (σ:=(Int×Int)) (
    if ((decide (aA.2.2.1=(0:Int)))&&(!(val (EM aA.2.2.2.2.1))))=true then
     q6 (tQ (O.1,(aA.1,(aA.2.1,(aA.2.2.1,((O.2.2.2.2.1.1,(O.2.2.2.2.1.2.1,(O.2.2.2.2.1.2.2.1,(O.2.2.2.2.1.2.2.2.1,())))),(O.2.2.2.2.2.1,())))))) (aA.2.2.2.1,(aA.2.2.2.2.1,(aA.2.2.2.2.2.1,(aA.2.2.2.2.2.2,())))) (3:Int)) fun aB=>
     some ((aB.1,aB.2))
    else
     some ((aA.2.1,aA.2.2.1))
   ) fun(aC,aD)=>
  (uY (O.1,(aA.1,(aC,(aD,((O.2.2.2.2.1.1,(O.2.2.2.2.1.2.1,(O.2.2.2.2.1.2.2.1,(O.2.2.2.2.1.2.2.2.1,())))),(O.2.2.2.2.2.1,())))))) (([]:List UInt8),(([]:List UInt8),(([]:List UInt8),(([]:List (List UInt8)),(([]:List (List UInt8)),((0:Int),(([]:List p9),()))))))) true).bind fun aE=>
  some ((aE.1,aE.2.1,aE.2.2.1,aA.2.2.2.2.1,aE.2.2.2.2.2.2.1,aE.2.2.2.2.2.2.2.2.2,aE.2.2.2.1))
 else none
section
variable (O:tD)
@[reducible] def a2i:List Slot:=[(.val rZ O,none)]
@[reducible] def a2j:List Blk:=[]
@[go_sem] def a2k:Ret:=⟨[((yE O)).isSome=true],[(.val rZ (O.1,((val (yE O)).1,((val (yE O)).2.1,((val (yE O)).2.2.1,(((val (yE O)).2.2.2.1,((val (yE O)).2.2.2.2.1,((val (yE O)).2.2.2.2.2.1,(([]:List pX),())))),((val (yE O)).2.2.2.2.2.2,())))))),none)],[]⟩
def aAU:List Slot→List Blk→Option Ret:=pM (V:=tD) (fun x=>a2i x) (fun x=>a2j) fun x=>a2k x
@[go_sem] theorem aMj:aAU (no_index (a2i O)) (no_index a2j)=some (a2k O):=pN (fun a0 b0 h1 h2=>by cases h1;cases h2;rfl) O
end
@[reducible,go_sem] def aAV:Nat×Sig:=(43,⟨[.v],aAU,[],[],none⟩)
theorem DB:Env Tryz.prog [q7,uK,AJ,AH,vH,yU,AF,AG] (pE [GJ,a9z,EA,a2a]):=⟨⟨q9,⟨vG,⟨CO,⟨CN,⟨wQ,⟨AI,⟨CL,⟨CM,trivial⟩⟩⟩⟩⟩⟩⟩⟩,p5 IH (p5 aGr (p5 G4 (p5 aAQ pP))),pH⟩
theorem aGV:pI Tryz.prog aAV:=by
 refine pO DB Tryz.func43 (c:=_) rfl (N:=42) (by kernel_rfl) (ts:=[(2,some 91)]) rfl (fun _ _=>rfl) ?_
 intro O hs hrow
 dsimp only[a2i,a2j,a2k,pJ,enumH,pD,pG,pL,Nat.reduceAdd] at hs hrow⊢
 have hz:=hs
 obtain⟨z0,hC0⟩:=Option.isSome_iff_exists.1 hz
 try rw[pW hC0]
 clear hz hs
 unfold yE at hC0
 refine oS DB ?_
 obtain⟨Z,hv1,hw1,hC0⟩:=p8 hC0
 try simp only[go_sem] at hw1
 refine oS DB ?_ (hp:=by exact(p7 hv1)) (h:=by simp only[go_sem,hw1];rfl)
 obtain⟨aA,hv2,hw2,hC0⟩:=p8 hC0
 try simp only[go_sem] at hw2
 refine oS DB ?_ (hp:=by exact(p7 hv2)) (h:=by simp only[go_sem,hw2];rfl)
 refine p4 ?_
 obtain⟨hg3,hC0⟩:=oU hC0
 refine oS DB ?_ (hp:=by exact And.intro (fun hh=>hh) (And.intro (fun hh=>hh) (And.intro hg3 (And.intro (fun hh=>hh) ((fun hh=>pZ hh))))))
 obtain⟨y1,hC1,hC0⟩:=oY hC0
 refine y8 (fun s=>s=(fun x=>⟨[(1,(.val .ref (some (0,0)),none)),(2,(.val .ref (some (1,0)),none)),(3,(.val .ref (some (2,0)),none))],[(0,.cells rZ (O.1,(aA.1,(x.1,(x.2,((O.2.2.2.2.1.1,(O.2.2.2.2.1.2.1,(O.2.2.2.2.1.2.2.1,(O.2.2.2.2.1.2.2.2.1,())))),(O.2.2.2.2.2.1,())))))) []),(1,.cells rZ (([]:List UInt8),((0:Int),((0:Int),((0:Int),((([]:List UInt8),(([]:List (List UInt8)),(([]:List p9),(([]:List pX),())))),(([]:List Int),())))))) [(5,3),(6,4),(7,5),(8,6)]),(2,.cells CJ (aA.2.2.2.1,(aA.2.2.2.2.1,(aA.2.2.2.2.2.1,(aA.2.2.2.2.2.2,())))) []),(3,.grow 9 1 (List.length ([]:List (List UInt8)))),(4,.grow 144 2 (List.length ([]:List p9))),(5,.grow 52 7 (List.length ([]:List pX))),(6,.grow 3 1 (List.length ([]:List Int)))],7,42,0⟩) y1) ?_ ?_
 ·refine oX hC1 (fun hC1 hc1=> ?_) (fun hC1 hc1=> ?_)
  ·obtain⟨aB,hw_21,hC1⟩:=rI hC1
   try simp only[go_sem] at hw_21
   refine pF DB ?_ (h:=by simp only[go_sem,hw_21];rfl)
   cases hC1
   exact rK ⟨⟨[1,2,3],[(0,0),(1,16),(2,208),(3,17),(4,18),(5,19),(6,20)]⟩,by rfl⟩
  ·refine p6 ?_
   cases hC1
   exact rK ⟨⟨[1,2,3],[(0,0),(1,16),(2,208),(3,17),(4,18),(5,19),(6,20)]⟩,by rfl⟩
 ·rintro _ rfl
  obtain⟨aC,aD⟩:=y1
  dsimp only at hC0⊢
  refine oW ?_
  obtain⟨aE,hv4,hw4,hC0⟩:=p8 hC0
  try simp only[go_sem] at hw4
  refine oS DB ?_ (hp:=by exact(p7 hv4)) (h:=by simp only[go_sem,hw4];rfl)
  refine oS DB ?_
  refine oS DB ?_
  refine oV ?_
  cases hC0
  exact⟨[],by rfl,by rfl,by rfl⟩
attribute [irreducible] yE
end
end Go.Proofs.YtfchbnahjcdiiaaGreatDoor
namespace Go.Proofs.YtfchbnahjcdiiaaGreatDoor
open Vc
set_option maxRecDepth 100000
set_option maxHeartbeats 4000000
set_option linter.unusedSimpArgs false
set_option linter.unusedVariables false
noncomputable section
def wU (O:((List UInt8)×(Int×Unit))) (Z:qA) (aA:Int) (aB:Int) (aC:qB) (aD:((List Int)×(Int×Unit))) (aE:Int) (aF:Bool) (aG:(List ((List UInt8)×Bool))):Option (Int×Int×(List UInt8)×Int×Int×Int×Int×Int):=
 if ((!decide (Z.1=aE))||(!true))=true then
  q6 (s7 O Z aA aB aC aD (3:Int) aG) fun aH=>
  (qP (O.1,(O.2.1,())) (Z.1,(Z.2.1,(Z.2.2.1,(Z.2.2.2.1,())))) aH.1 aH.2 (aC.1,(aC.2.1,(aC.2.2.1,(aC.2.2.2.1,())))) (aD.1,(aD.2.1,())) aG).bind fun aI=>
  some ((aI.1,aI.2.1,aI.2.2.1,aI.2.2.2.1,aI.2.2.2.2.1,aH.1,aH.2,aI.2.2.2.2.2))
 else
  if false=true then
   q6 (s7 O Z aA aB aC aD (9:Int) aG) fun aJ=>
   (qP (O.1,(O.2.1,())) (Z.1,(Z.2.1,(Z.2.2.1,(Z.2.2.2.1,())))) aJ.1 aJ.2 (aC.1,(aC.2.1,(aC.2.2.1,(aC.2.2.2.1,())))) (aD.1,(aD.2.1,())) aG).bind fun aK=>
   some ((aK.1,aK.2.1,aK.2.2.1,aK.2.2.2.1,aK.2.2.2.2.1,aJ.1,aJ.2,aK.2.2.2.2.2))
  else
   if aF=true then
    q6 (s7 O Z aA aB aC aD (6:Int) aG) fun aL=>
    (qP (O.1,(O.2.1,())) (Z.1,(Z.2.1,(Z.2.2.1,(Z.2.2.2.1,())))) aL.1 aL.2 (aC.1,(aC.2.1,(aC.2.2.1,(aC.2.2.2.1,())))) (aD.1,(aD.2.1,())) aG).bind fun aM=>
    some ((aM.1,aM.2.1,aM.2.2.1,aM.2.2.2.1,aM.2.2.2.2.1,aL.1,aL.2,aM.2.2.2.2.2))
   else
    (qP O Z aA aB aC aD aG).bind fun aN=>
    some ((aN.1,aN.2.1,aN.2.2.1,aN.2.2.2.1,aN.2.2.2.2.1,aA,aB,aN.2.2.2.2.2))
section
variable (O:Int) (Z:Bool) (aA:((List UInt8)×(Int×Unit))) (aB:qA) (aC:Int) (aD:Int) (aE:qB) (aF:((List Int)×(Int×Unit))) (aG:Nat) (aH:Nat) (aI:(List ((List UInt8)×Bool)))
@[reducible] def a2l:List Slot:=[(.val .ref (some (0,0)),none),(.val (.int .i64) O,none),(.val .clo (some (212,[])),none),(.val .clo (some (72,[])),none),(.val .bool Z,none)]
@[reducible] def a2m:List Blk:=[.cells q8 (aA,(aB,(aC,(aD,(aE,((some 3),aF)))))) [(11,1),(13,2)],.grow 52 7 aG,.grow 3 1 aH,.map .str .bool aI]
@[go_sem] def a2n:Ret:=⟨[aG=(List.length aE.2.2.2.1),aH=(List.length aF.1),((wU aA aB aC aD aE aF O Z aI)).isSome=true],[(.val .str aB.2.1,none)],[.cells q8 ((aA.1,((val (wU aA aB aC aD aE aF O Z aI)).1,())),(((val (wU aA aB aC aD aE aF O Z aI)).2.1,((val (wU aA aB aC aD aE aF O Z aI)).2.2.1,((val (wU aA aB aC aD aE aF O Z aI)).2.2.2.1,((val (wU aA aB aC aD aE aF O Z aI)).2.2.2.2.1,())))),((val (wU aA aB aC aD aE aF O Z aI)).2.2.2.2.2.1,((val (wU aA aB aC aD aE aF O Z aI)).2.2.2.2.2.2.1,((aE.1,(aE.2.1,(aE.2.2.1,(aE.2.2.2.1,())))),((some 3),(aF.1,((val (wU aA aB aC aD aE aF O Z aI)).2.2.2.2.2.2.2,())))))))) [(11,1),(13,2)],.grow 52 7 (List.length aE.2.2.2.1),.grow 3 1 (List.length aF.1),.map .str .bool aI]⟩
def aAW:List Slot→List Blk→Option Ret:=pM (V:=(Int×Bool×((List UInt8)×(Int×Unit))×qA×Int×Int×qB×((List Int)×(Int×Unit))×Nat×Nat×(List ((List UInt8)×Bool)))) (fun x=>a2l x.1 x.2.1) (fun x=>a2m x.2.2.1 x.2.2.2.1 x.2.2.2.2.1 x.2.2.2.2.2.1 x.2.2.2.2.2.2.1 x.2.2.2.2.2.2.2.1 x.2.2.2.2.2.2.2.2.1 x.2.2.2.2.2.2.2.2.2.1 x.2.2.2.2.2.2.2.2.2.2) fun x=>a2n x.1 x.2.1 x.2.2.1 x.2.2.2.1 x.2.2.2.2.1 x.2.2.2.2.2.1 x.2.2.2.2.2.2.1 x.2.2.2.2.2.2.2.1 x.2.2.2.2.2.2.2.2.1 x.2.2.2.2.2.2.2.2.2.1 x.2.2.2.2.2.2.2.2.2.2
@[go_sem] theorem aMk:aAW (no_index (a2l O Z)) (no_index (a2m aA aB aC aD aE aF aG aH aI))=some (a2n O Z aA aB aC aD aE aF aG aH aI):=pN (fun⟨a0,a1,a2,a3,a4,a5,a6,a7,a8,a9,a10⟩ ⟨b0,b1,b2,b3,b4,b5,b6,b7,b8,b9,b10⟩ h1 h2=>by cases h1;cases h2;rfl) (O,Z,aA,aB,aC,aD,aE,aF,aG,aH,aI)
end
@[reducible,go_sem] def aAX:Nat×Sig:=(70,⟨[.p q8 [11,13],.v,.v,.v,.v],aAW,[(0,12,.m)],[1,2,3],none⟩)
theorem w8:Env Tryz.prog [s5,q7,wR,uV] (pE [a88,wT,vK,OW]):=⟨⟨sG,⟨q9,⟨yB,⟨w6,trivial⟩⟩⟩⟩,p5 aGe (p5 BK (p5 AR (p5 UT pP))),pH⟩
theorem aGW:pI Tryz.prog aAX:=by
 refine pO w8 Tryz.func70 (c:=_) rfl (N:=46) (by kernel_rfl) (ts:=[(10,none)]) rfl (fun _ _=>rfl) ?_
 intro⟨O,Z,aA,aB,aC,aD,aE,aF,aG,aH,aI⟩ hs hrow
 dsimp only[a2l,a2m,a2n,pJ,enumH,pD,pG,pL,Nat.reduceAdd] at hs hrow⊢
 obtain⟨rfl,rfl,hz⟩:=hs
 obtain⟨z0,hC0⟩:=Option.isSome_iff_exists.1 hz
 try rw[pW hC0]
 clear hz
 unfold wU at hC0
 refine oS w8 ?_
 refine oS w8 ?_
 refine p4 (pT ?_)
 refine oS w8 ?_ (hp:=by exact And.intro (fun hh=>hh) (And.intro (fun hh=>hh) (And.intro (fun hh=>hh) ((fun hh=>sF hh)))))
 refine oX hC0 (fun hC0 hc1=> ?_) (fun hC0 hc1=> ?_)
 ·obtain⟨aJ,hw_27,hC0⟩:=rI hC0
  try simp only[go_sem] at hw_27
  refine pF w8 ?_ (hp:=by exact And.intro (by first|exact rfl|exact trivial) (And.intro (by first|exact rfl|exact trivial) (And.intro (by first|exact rfl|exact trivial) (And.intro (by first|exact rfl|exact trivial) ((by first|exact rfl|exact trivial)))))) (h:=by simp only[go_sem,hw_27];rfl)
  refine pB (oW ?_)
  obtain⟨aK,hv1,hw1,hC0⟩:=p8 hC0
  try simp only[go_sem] at hw1
  refine oS w8 ?_ (hp:=by exact And.intro (by first|exact rfl|exact trivial) (And.intro (by first|exact rfl|exact trivial) (And.intro (by first|exact rfl|exact trivial) (And.intro (by first|exact rfl|exact trivial) (And.intro (by first|exact rfl|exact trivial) ((p7 hv1))))))) (h:=by simp only[go_sem,hw1];rfl)
  refine oS w8 ?_
  refine oV ?_
  cases hC0
  exact⟨[(0,0),(1,1),(2,2),(3,3)],by rfl,by rfl,by rfl⟩
 ·refine oS w8 ?_
  refine oX hC0 (fun hC0 hc2=> ?_) (fun hC0 hc2=> ?_)
  ·obtain⟨aL,hw_29,hC0⟩:=rI hC0
   try simp only[go_sem] at hw_29
   refine pF w8 ?_ (hp:=by exact And.intro (by first|exact rfl|exact trivial) (And.intro (by first|exact rfl|exact trivial) (And.intro (by first|exact rfl|exact trivial) (And.intro (by first|exact rfl|exact trivial) ((by first|exact rfl|exact trivial)))))) (h:=by simp only[go_sem,hw_29];rfl)
   refine pB (oW ?_)
   obtain⟨aM,hv2,hw2,hC0⟩:=p8 hC0
   try simp only[go_sem] at hw2
   refine oS w8 ?_ (hp:=by exact And.intro (by first|exact rfl|exact trivial) (And.intro (by first|exact rfl|exact trivial) (And.intro (by first|exact rfl|exact trivial) (And.intro (by first|exact rfl|exact trivial) (And.intro (by first|exact rfl|exact trivial) ((p7 hv2))))))) (h:=by simp only[go_sem,hw2];rfl)
   refine oS w8 ?_
   refine oV ?_
   cases hC0
   exact⟨[(0,0),(1,1),(2,2),(3,3)],by rfl,by rfl,by rfl⟩
  ·refine oS w8 ?_
   refine oX hC0 (fun hC0 hc3=> ?_) (fun hC0 hc3=> ?_)
   ·obtain⟨aN,hw_31,hC0⟩:=rI hC0
    try simp only[go_sem] at hw_31
    refine pF w8 ?_ (hp:=by exact And.intro (by first|exact rfl|exact trivial) (And.intro (by first|exact rfl|exact trivial) (And.intro (by first|exact rfl|exact trivial) (And.intro (by first|exact rfl|exact trivial) ((by first|exact rfl|exact trivial)))))) (h:=by simp only[go_sem,hw_31];rfl)
    refine pB (oW ?_)
    obtain⟨aO,hv3,hw3,hC0⟩:=p8 hC0
    try simp only[go_sem] at hw3
    refine oS w8 ?_ (hp:=by exact And.intro (by first|exact rfl|exact trivial) (And.intro (by first|exact rfl|exact trivial) (And.intro (by first|exact rfl|exact trivial) (And.intro (by first|exact rfl|exact trivial) (And.intro (by first|exact rfl|exact trivial) ((p7 hv3))))))) (h:=by simp only[go_sem,hw3];rfl)
    refine oS w8 ?_
    refine oV ?_
    cases hC0
    exact⟨[(0,0),(1,1),(2,2),(3,3)],by rfl,by rfl,by rfl⟩
   ·refine p6 (pB (oW ?_))
    obtain⟨aP,hv4,hw4,hC0⟩:=p8 hC0
    try simp only[go_sem] at hw4
    refine oS w8 ?_ (hp:=by exact And.intro (by first|exact rfl|exact trivial) (And.intro (by first|exact rfl|exact trivial) (And.intro (by first|exact rfl|exact trivial) (And.intro (by first|exact rfl|exact trivial) (And.intro (by first|exact rfl|exact trivial) ((p7 hv4))))))) (h:=by simp only[go_sem,hw4];rfl)
    refine oS w8 ?_
    refine oV ?_
    cases hC0
    exact⟨[(0,0),(1,1),(2,2),(3,3)],by rfl,by rfl,by rfl⟩
attribute [irreducible] wU
def wV (O:((List UInt8)×(Int×Unit))) (Z:qA) (aA:Int) (aB:Int) (aC:qB) (aD:((List Int)×(Int×Unit))) (aE:Int) (aF:Bool) (aG:(List ((List UInt8)×Bool))):Option (Int×Int×(List UInt8)×Int×Int×Int×Int×Int):=
 if (((!decide (Z.1=aE))==false)=true→((E8 Z.2.1)).isSome=true) then
  if ((!decide (Z.1=aE))||(!(val (E8 Z.2.1))))=true then
   q6 (s7 O Z aA aB aC aD (3:Int) aG) fun aH=>
   (qP (O.1,(O.2.1,())) (Z.1,(Z.2.1,(Z.2.2.1,(Z.2.2.2.1,())))) aH.1 aH.2 (aC.1,(aC.2.1,(aC.2.2.1,(aC.2.2.2.1,())))) (aD.1,(aD.2.1,())) aG).bind fun aI=>
   some ((aI.1,aI.2.1,aI.2.2.1,aI.2.2.2.1,aI.2.2.2.2.1,aH.1,aH.2,aI.2.2.2.2.2))
  else
   if false=true then
    q6 (s7 O Z aA aB aC aD (9:Int) aG) fun aJ=>
    (qP (O.1,(O.2.1,())) (Z.1,(Z.2.1,(Z.2.2.1,(Z.2.2.2.1,())))) aJ.1 aJ.2 (aC.1,(aC.2.1,(aC.2.2.1,(aC.2.2.2.1,())))) (aD.1,(aD.2.1,())) aG).bind fun aK=>
    some ((aK.1,aK.2.1,aK.2.2.1,aK.2.2.2.1,aK.2.2.2.2.1,aJ.1,aJ.2,aK.2.2.2.2.2))
   else
    if aF=true then
     q6 (s7 O Z aA aB aC aD (6:Int) aG) fun aL=>
     (qP (O.1,(O.2.1,())) (Z.1,(Z.2.1,(Z.2.2.1,(Z.2.2.2.1,())))) aL.1 aL.2 (aC.1,(aC.2.1,(aC.2.2.1,(aC.2.2.2.1,())))) (aD.1,(aD.2.1,())) aG).bind fun aM=>
     some ((aM.1,aM.2.1,aM.2.2.1,aM.2.2.2.1,aM.2.2.2.2.1,aL.1,aL.2,aM.2.2.2.2.2))
    else
     (qP O Z aA aB aC aD aG).bind fun aN=>
     some ((aN.1,aN.2.1,aN.2.2.1,aN.2.2.2.1,aN.2.2.2.2.1,aA,aB,aN.2.2.2.2.2))
 else none
section
variable (O:Int) (Z:Bool) (aA:((List UInt8)×(Int×Unit))) (aB:qA) (aC:Int) (aD:Int) (aE:qB) (aF:((List Int)×(Int×Unit))) (aG:Nat) (aH:Nat) (aI:(List ((List UInt8)×Bool)))
@[reducible] def a2o:List Slot:=[(.val .ref (some (0,0)),none),(.val (.int .i64) O,none),(.val .clo (some (71,[])),none),(.val .clo (some (72,[])),none),(.val .bool Z,none)]
@[reducible] def a2p:List Blk:=[.cells q8 (aA,(aB,(aC,(aD,(aE,((some 3),aF)))))) [(11,1),(13,2)],.grow 52 7 aG,.grow 3 1 aH,.map .str .bool aI]
@[go_sem] def a2q:Ret:=⟨[aG=(List.length aE.2.2.2.1),aH=(List.length aF.1),((wV aA aB aC aD aE aF O Z aI)).isSome=true],[(.val .str aB.2.1,none)],[.cells q8 ((aA.1,((val (wV aA aB aC aD aE aF O Z aI)).1,())),(((val (wV aA aB aC aD aE aF O Z aI)).2.1,((val (wV aA aB aC aD aE aF O Z aI)).2.2.1,((val (wV aA aB aC aD aE aF O Z aI)).2.2.2.1,((val (wV aA aB aC aD aE aF O Z aI)).2.2.2.2.1,())))),((val (wV aA aB aC aD aE aF O Z aI)).2.2.2.2.2.1,((val (wV aA aB aC aD aE aF O Z aI)).2.2.2.2.2.2.1,((aE.1,(aE.2.1,(aE.2.2.1,(aE.2.2.2.1,())))),((some 3),(aF.1,((val (wV aA aB aC aD aE aF O Z aI)).2.2.2.2.2.2.2,())))))))) [(11,1),(13,2)],.grow 52 7 (List.length aE.2.2.2.1),.grow 3 1 (List.length aF.1),.map .str .bool aI]⟩
def aAY:List Slot→List Blk→Option Ret:=pM (V:=(Int×Bool×((List UInt8)×(Int×Unit))×qA×Int×Int×qB×((List Int)×(Int×Unit))×Nat×Nat×(List ((List UInt8)×Bool)))) (fun x=>a2o x.1 x.2.1) (fun x=>a2p x.2.2.1 x.2.2.2.1 x.2.2.2.2.1 x.2.2.2.2.2.1 x.2.2.2.2.2.2.1 x.2.2.2.2.2.2.2.1 x.2.2.2.2.2.2.2.2.1 x.2.2.2.2.2.2.2.2.2.1 x.2.2.2.2.2.2.2.2.2.2) fun x=>a2q x.1 x.2.1 x.2.2.1 x.2.2.2.1 x.2.2.2.2.1 x.2.2.2.2.2.1 x.2.2.2.2.2.2.1 x.2.2.2.2.2.2.2.1 x.2.2.2.2.2.2.2.2.1 x.2.2.2.2.2.2.2.2.2.1 x.2.2.2.2.2.2.2.2.2.2
@[go_sem] theorem aMl:aAY (no_index (a2o O Z)) (no_index (a2p aA aB aC aD aE aF aG aH aI))=some (a2q O Z aA aB aC aD aE aF aG aH aI):=pN (fun⟨a0,a1,a2,a3,a4,a5,a6,a7,a8,a9,a10⟩ ⟨b0,b1,b2,b3,b4,b5,b6,b7,b8,b9,b10⟩ h1 h2=>by cases h1;cases h2;rfl) (O,Z,aA,aB,aC,aD,aE,aF,aG,aH,aI)
end
@[reducible,go_sem] def aAZ:Nat×Sig:=(70,⟨[.p q8 [11,13],.v,.v,.v,.v],aAY,[(0,12,.m)],[1,2,3],none⟩)
theorem w9:Env Tryz.prog [s5,q7,wR,uV] (pE [a7T,wT,vK,OW]):=⟨⟨sG,⟨q9,⟨yB,⟨w6,trivial⟩⟩⟩⟩,p5 aFW (p5 BK (p5 AR (p5 UT pP))),pH⟩
theorem aGX:pI Tryz.prog aAZ:=by
 refine pO w9 Tryz.func70 (c:=_) rfl (N:=46) (by kernel_rfl) (ts:=[(10,none)]) rfl (fun _ _=>rfl) ?_
 intro⟨O,Z,aA,aB,aC,aD,aE,aF,aG,aH,aI⟩ hs hrow
 dsimp only[a2o,a2p,a2q,pJ,enumH,pD,pG,pL,Nat.reduceAdd] at hs hrow⊢
 obtain⟨rfl,rfl,hz⟩:=hs
 obtain⟨z0,hC0⟩:=Option.isSome_iff_exists.1 hz
 try rw[pW hC0]
 clear hz
 unfold wV at hC0
 refine oS w9 ?_
 refine oS w9 ?_
 refine p4 (pT ?_)
 obtain⟨hg1,hC0⟩:=oU hC0
 refine oS w9 ?_ (hp:=by exact And.intro (fun hh=>hh) (And.intro (fun hh=>hh) (And.intro hg1 (And.intro (fun hh=>hh) ((fun hh=>sF hh))))))
 refine oX hC0 (fun hC0 hc1=> ?_) (fun hC0 hc1=> ?_)
 ·obtain⟨aJ,hw_27,hC0⟩:=rI hC0
  try simp only[go_sem] at hw_27
  refine pF w9 ?_ (hp:=by exact And.intro (by first|exact rfl|exact trivial) (And.intro (by first|exact rfl|exact trivial) (And.intro (by first|exact rfl|exact trivial) (And.intro (by first|exact rfl|exact trivial) ((by first|exact rfl|exact trivial)))))) (h:=by simp only[go_sem,hw_27];rfl)
  refine pB (oW ?_)
  obtain⟨aK,hv2,hw2,hC0⟩:=p8 hC0
  try simp only[go_sem] at hw2
  refine oS w9 ?_ (hp:=by exact And.intro (by first|exact rfl|exact trivial) (And.intro (by first|exact rfl|exact trivial) (And.intro (by first|exact rfl|exact trivial) (And.intro (by first|exact rfl|exact trivial) (And.intro (by first|exact rfl|exact trivial) ((p7 hv2))))))) (h:=by simp only[go_sem,hw2];rfl)
  refine oS w9 ?_
  refine oV ?_
  cases hC0
  exact⟨[(0,0),(1,1),(2,2),(3,3)],by rfl,by rfl,by rfl⟩
 ·refine oS w9 ?_
  refine oX hC0 (fun hC0 hc2=> ?_) (fun hC0 hc2=> ?_)
  ·obtain⟨aL,hw_29,hC0⟩:=rI hC0
   try simp only[go_sem] at hw_29
   refine pF w9 ?_ (hp:=by exact And.intro (by first|exact rfl|exact trivial) (And.intro (by first|exact rfl|exact trivial) (And.intro (by first|exact rfl|exact trivial) (And.intro (by first|exact rfl|exact trivial) ((by first|exact rfl|exact trivial)))))) (h:=by simp only[go_sem,hw_29];rfl)
   refine pB (oW ?_)
   obtain⟨aM,hv3,hw3,hC0⟩:=p8 hC0
   try simp only[go_sem] at hw3
   refine oS w9 ?_ (hp:=by exact And.intro (by first|exact rfl|exact trivial) (And.intro (by first|exact rfl|exact trivial) (And.intro (by first|exact rfl|exact trivial) (And.intro (by first|exact rfl|exact trivial) (And.intro (by first|exact rfl|exact trivial) ((p7 hv3))))))) (h:=by simp only[go_sem,hw3];rfl)
   refine oS w9 ?_
   refine oV ?_
   cases hC0
   exact⟨[(0,0),(1,1),(2,2),(3,3)],by rfl,by rfl,by rfl⟩
  ·refine oS w9 ?_
   refine oX hC0 (fun hC0 hc3=> ?_) (fun hC0 hc3=> ?_)
   ·obtain⟨aN,hw_31,hC0⟩:=rI hC0
    try simp only[go_sem] at hw_31
    refine pF w9 ?_ (hp:=by exact And.intro (by first|exact rfl|exact trivial) (And.intro (by first|exact rfl|exact trivial) (And.intro (by first|exact rfl|exact trivial) (And.intro (by first|exact rfl|exact trivial) ((by first|exact rfl|exact trivial)))))) (h:=by simp only[go_sem,hw_31];rfl)
    refine pB (oW ?_)
    obtain⟨aO,hv4,hw4,hC0⟩:=p8 hC0
    try simp only[go_sem] at hw4
    refine oS w9 ?_ (hp:=by exact And.intro (by first|exact rfl|exact trivial) (And.intro (by first|exact rfl|exact trivial) (And.intro (by first|exact rfl|exact trivial) (And.intro (by first|exact rfl|exact trivial) (And.intro (by first|exact rfl|exact trivial) ((p7 hv4))))))) (h:=by simp only[go_sem,hw4];rfl)
    refine oS w9 ?_
    refine oV ?_
    cases hC0
    exact⟨[(0,0),(1,1),(2,2),(3,3)],by rfl,by rfl,by rfl⟩
   ·refine p6 (pB (oW ?_))
    obtain⟨aP,hv5,hw5,hC0⟩:=p8 hC0
    try simp only[go_sem] at hw5
    refine oS w9 ?_ (hp:=by exact And.intro (by first|exact rfl|exact trivial) (And.intro (by first|exact rfl|exact trivial) (And.intro (by first|exact rfl|exact trivial) (And.intro (by first|exact rfl|exact trivial) (And.intro (by first|exact rfl|exact trivial) ((p7 hv5))))))) (h:=by simp only[go_sem,hw5];rfl)
    refine oS w9 ?_
    refine oV ?_
    cases hC0
    exact⟨[(0,0),(1,1),(2,2),(3,3)],by rfl,by rfl,by rfl⟩
attribute [irreducible] wV
end
end Go.Proofs.YtfchbnahjcdiiaaGreatDoor
namespace Go.Proofs.YtfchbnahjcdiiaaGreatDoor
open Vc
set_option maxRecDepth 100000
set_option maxHeartbeats 4000000
set_option linter.unusedSimpArgs false
set_option linter.unusedVariables false
noncomputable section
def wW (O:((List UInt8)×(Int×Unit))) (Z:qA) (aA:Int) (aB:Int) (aC:qB) (aD:((List Int)×(Int×Unit))) (aE:Int) (aF:Bool) (aG:(List ((List UInt8)×Bool))):Option (Int×Int×(List UInt8)×Int×Int×Int×Int×Int):=
 if (((!decide (Z.1=aE))==false)=true→((ER Z.2.1)).isSome=true) then
  if ((!decide (Z.1=aE))||(!(val (ER Z.2.1))))=true then
   q6 (s7 O Z aA aB aC aD (3:Int) aG) fun aH=>
   (qP (O.1,(O.2.1,())) (Z.1,(Z.2.1,(Z.2.2.1,(Z.2.2.2.1,())))) aH.1 aH.2 (aC.1,(aC.2.1,(aC.2.2.1,(aC.2.2.2.1,())))) (aD.1,(aD.2.1,())) aG).bind fun aI=>
   some ((aI.1,aI.2.1,aI.2.2.1,aI.2.2.2.1,aI.2.2.2.2.1,aH.1,aH.2,aI.2.2.2.2.2))
  else
   if false=true then
    q6 (s7 O Z aA aB aC aD (9:Int) aG) fun aJ=>
    (qP (O.1,(O.2.1,())) (Z.1,(Z.2.1,(Z.2.2.1,(Z.2.2.2.1,())))) aJ.1 aJ.2 (aC.1,(aC.2.1,(aC.2.2.1,(aC.2.2.2.1,())))) (aD.1,(aD.2.1,())) aG).bind fun aK=>
    some ((aK.1,aK.2.1,aK.2.2.1,aK.2.2.2.1,aK.2.2.2.2.1,aJ.1,aJ.2,aK.2.2.2.2.2))
   else
    if aF=true then
     q6 (s7 O Z aA aB aC aD (6:Int) aG) fun aL=>
     (qP (O.1,(O.2.1,())) (Z.1,(Z.2.1,(Z.2.2.1,(Z.2.2.2.1,())))) aL.1 aL.2 (aC.1,(aC.2.1,(aC.2.2.1,(aC.2.2.2.1,())))) (aD.1,(aD.2.1,())) aG).bind fun aM=>
     some ((aM.1,aM.2.1,aM.2.2.1,aM.2.2.2.1,aM.2.2.2.2.1,aL.1,aL.2,aM.2.2.2.2.2))
    else
     (qP O Z aA aB aC aD aG).bind fun aN=>
     some ((aN.1,aN.2.1,aN.2.2.1,aN.2.2.2.1,aN.2.2.2.2.1,aA,aB,aN.2.2.2.2.2))
 else none
section
variable (O:Int) (Z:Bool) (aA:((List UInt8)×(Int×Unit))) (aB:qA) (aC:Int) (aD:Int) (aE:qB) (aF:((List Int)×(Int×Unit))) (aG:Nat) (aH:Nat) (aI:(List ((List UInt8)×Bool)))
@[reducible] def a2r:List Slot:=[(.val .ref (some (0,0)),none),(.val (.int .i64) O,none),(.val .clo (some (190,[])),none),(.val .clo (some (72,[])),none),(.val .bool Z,none)]
@[reducible] def a2s:List Blk:=[.cells q8 (aA,(aB,(aC,(aD,(aE,((some 3),aF)))))) [(11,1),(13,2)],.grow 52 7 aG,.grow 3 1 aH,.map .str .bool aI]
@[go_sem] def a2t:Ret:=⟨[aG=(List.length aE.2.2.2.1),aH=(List.length aF.1),((wW aA aB aC aD aE aF O Z aI)).isSome=true],[(.val .str aB.2.1,none)],[.cells q8 ((aA.1,((val (wW aA aB aC aD aE aF O Z aI)).1,())),(((val (wW aA aB aC aD aE aF O Z aI)).2.1,((val (wW aA aB aC aD aE aF O Z aI)).2.2.1,((val (wW aA aB aC aD aE aF O Z aI)).2.2.2.1,((val (wW aA aB aC aD aE aF O Z aI)).2.2.2.2.1,())))),((val (wW aA aB aC aD aE aF O Z aI)).2.2.2.2.2.1,((val (wW aA aB aC aD aE aF O Z aI)).2.2.2.2.2.2.1,((aE.1,(aE.2.1,(aE.2.2.1,(aE.2.2.2.1,())))),((some 3),(aF.1,((val (wW aA aB aC aD aE aF O Z aI)).2.2.2.2.2.2.2,())))))))) [(11,1),(13,2)],.grow 52 7 (List.length aE.2.2.2.1),.grow 3 1 (List.length aF.1),.map .str .bool aI]⟩
def aA0:List Slot→List Blk→Option Ret:=pM (V:=(Int×Bool×((List UInt8)×(Int×Unit))×qA×Int×Int×qB×((List Int)×(Int×Unit))×Nat×Nat×(List ((List UInt8)×Bool)))) (fun x=>a2r x.1 x.2.1) (fun x=>a2s x.2.2.1 x.2.2.2.1 x.2.2.2.2.1 x.2.2.2.2.2.1 x.2.2.2.2.2.2.1 x.2.2.2.2.2.2.2.1 x.2.2.2.2.2.2.2.2.1 x.2.2.2.2.2.2.2.2.2.1 x.2.2.2.2.2.2.2.2.2.2) fun x=>a2t x.1 x.2.1 x.2.2.1 x.2.2.2.1 x.2.2.2.2.1 x.2.2.2.2.2.1 x.2.2.2.2.2.2.1 x.2.2.2.2.2.2.2.1 x.2.2.2.2.2.2.2.2.1 x.2.2.2.2.2.2.2.2.2.1 x.2.2.2.2.2.2.2.2.2.2
@[go_sem] theorem aMm:aA0 (no_index (a2r O Z)) (no_index (a2s aA aB aC aD aE aF aG aH aI))=some (a2t O Z aA aB aC aD aE aF aG aH aI):=pN (fun⟨a0,a1,a2,a3,a4,a5,a6,a7,a8,a9,a10⟩ ⟨b0,b1,b2,b3,b4,b5,b6,b7,b8,b9,b10⟩ h1 h2=>by cases h1;cases h2;rfl) (O,Z,aA,aB,aC,aD,aE,aF,aG,aH,aI)
end
@[reducible,go_sem] def a2u:Nat×Sig:=(70,⟨[.p q8 [11,13],.v,.v,.v,.v],aA0,[(0,12,.m)],[1,2,3],none⟩)
theorem wA:Env Tryz.prog [s5,q7,wR,uV] (pE [a9X,wT,vK,OW]):=⟨⟨sG,⟨q9,⟨yB,⟨w6,trivial⟩⟩⟩⟩,p5 aGz (p5 BK (p5 AR (p5 UT pP))),pH⟩
theorem aGY:pI Tryz.prog a2u:=by
 refine pO wA Tryz.func70 (c:=_) rfl (N:=46) (by kernel_rfl) (ts:=[(10,none)]) rfl (fun _ _=>rfl) ?_
 intro⟨O,Z,aA,aB,aC,aD,aE,aF,aG,aH,aI⟩ hs hrow
 dsimp only[a2r,a2s,a2t,pJ,enumH,pD,pG,pL,Nat.reduceAdd] at hs hrow⊢
 obtain⟨rfl,rfl,hz⟩:=hs
 obtain⟨z0,hC0⟩:=Option.isSome_iff_exists.1 hz
 try rw[pW hC0]
 clear hz
 unfold wW at hC0
 refine oS wA ?_
 refine oS wA ?_
 refine p4 (pT ?_)
 obtain⟨hg1,hC0⟩:=oU hC0
 refine oS wA ?_ (hp:=by exact And.intro (fun hh=>hh) (And.intro (fun hh=>hh) (And.intro hg1 (And.intro (fun hh=>hh) ((fun hh=>sF hh))))))
 refine oX hC0 (fun hC0 hc1=> ?_) (fun hC0 hc1=> ?_)
 ·obtain⟨aJ,hw_27,hC0⟩:=rI hC0
  try simp only[go_sem] at hw_27
  refine pF wA ?_ (hp:=by exact And.intro (by first|exact rfl|exact trivial) (And.intro (by first|exact rfl|exact trivial) (And.intro (by first|exact rfl|exact trivial) (And.intro (by first|exact rfl|exact trivial) ((by first|exact rfl|exact trivial)))))) (h:=by simp only[go_sem,hw_27];rfl)
  refine pB (oW ?_)
  obtain⟨aK,hv2,hw2,hC0⟩:=p8 hC0
  try simp only[go_sem] at hw2
  refine oS wA ?_ (hp:=by exact And.intro (by first|exact rfl|exact trivial) (And.intro (by first|exact rfl|exact trivial) (And.intro (by first|exact rfl|exact trivial) (And.intro (by first|exact rfl|exact trivial) (And.intro (by first|exact rfl|exact trivial) ((p7 hv2))))))) (h:=by simp only[go_sem,hw2];rfl)
  refine oS wA ?_
  refine oV ?_
  cases hC0
  exact⟨[(0,0),(1,1),(2,2),(3,3)],by rfl,by rfl,by rfl⟩
 ·refine oS wA ?_
  refine oX hC0 (fun hC0 hc2=> ?_) (fun hC0 hc2=> ?_)
  ·obtain⟨aL,hw_29,hC0⟩:=rI hC0
   try simp only[go_sem] at hw_29
   refine pF wA ?_ (hp:=by exact And.intro (by first|exact rfl|exact trivial) (And.intro (by first|exact rfl|exact trivial) (And.intro (by first|exact rfl|exact trivial) (And.intro (by first|exact rfl|exact trivial) ((by first|exact rfl|exact trivial)))))) (h:=by simp only[go_sem,hw_29];rfl)
   refine pB (oW ?_)
   obtain⟨aM,hv3,hw3,hC0⟩:=p8 hC0
   try simp only[go_sem] at hw3
   refine oS wA ?_ (hp:=by exact And.intro (by first|exact rfl|exact trivial) (And.intro (by first|exact rfl|exact trivial) (And.intro (by first|exact rfl|exact trivial) (And.intro (by first|exact rfl|exact trivial) (And.intro (by first|exact rfl|exact trivial) ((p7 hv3))))))) (h:=by simp only[go_sem,hw3];rfl)
   refine oS wA ?_
   refine oV ?_
   cases hC0
   exact⟨[(0,0),(1,1),(2,2),(3,3)],by rfl,by rfl,by rfl⟩
  ·refine oS wA ?_
   refine oX hC0 (fun hC0 hc3=> ?_) (fun hC0 hc3=> ?_)
   ·obtain⟨aN,hw_31,hC0⟩:=rI hC0
    try simp only[go_sem] at hw_31
    refine pF wA ?_ (hp:=by exact And.intro (by first|exact rfl|exact trivial) (And.intro (by first|exact rfl|exact trivial) (And.intro (by first|exact rfl|exact trivial) (And.intro (by first|exact rfl|exact trivial) ((by first|exact rfl|exact trivial)))))) (h:=by simp only[go_sem,hw_31];rfl)
    refine pB (oW ?_)
    obtain⟨aO,hv4,hw4,hC0⟩:=p8 hC0
    try simp only[go_sem] at hw4
    refine oS wA ?_ (hp:=by exact And.intro (by first|exact rfl|exact trivial) (And.intro (by first|exact rfl|exact trivial) (And.intro (by first|exact rfl|exact trivial) (And.intro (by first|exact rfl|exact trivial) (And.intro (by first|exact rfl|exact trivial) ((p7 hv4))))))) (h:=by simp only[go_sem,hw4];rfl)
    refine oS wA ?_
    refine oV ?_
    cases hC0
    exact⟨[(0,0),(1,1),(2,2),(3,3)],by rfl,by rfl,by rfl⟩
   ·refine p6 (pB (oW ?_))
    obtain⟨aP,hv5,hw5,hC0⟩:=p8 hC0
    try simp only[go_sem] at hw5
    refine oS wA ?_ (hp:=by exact And.intro (by first|exact rfl|exact trivial) (And.intro (by first|exact rfl|exact trivial) (And.intro (by first|exact rfl|exact trivial) (And.intro (by first|exact rfl|exact trivial) (And.intro (by first|exact rfl|exact trivial) ((p7 hv5))))))) (h:=by simp only[go_sem,hw5];rfl)
    refine oS wA ?_
    refine oV ?_
    cases hC0
    exact⟨[(0,0),(1,1),(2,2),(3,3)],by rfl,by rfl,by rfl⟩
attribute [irreducible] wW
def AS (O:tD):Option (Int×Int×Int×(List pX)×(List Int)):=
 (sU O (2:Int) ([101,110,116,114,121]:List UInt8)).bind fun Z=>
 (sU (O.1,(Z.1,(Z.2.1,(Z.2.2.1,((O.2.2.2.2.1.1,(O.2.2.2.2.1.2.1,(O.2.2.2.2.1.2.2.1,(O.2.2.2.2.1.2.2.2.1,())))),(O.2.2.2.2.2.1,())))))) (1:Int) ([]:List UInt8)).bind fun aA=>
 if (!decide (aA.2.2.1=(0:Int)))=true then
  some ((aA.1,aA.2.1,aA.2.2.1,O.2.2.2.2.1.2.2.2.1,O.2.2.2.2.2.1))
 else
  (EC (O.2.2.2.2.1.1,(O.2.2.2.2.1.2.1,(O.2.2.2.2.1.2.2.1,(O.2.2.2.2.1.2.2.2.1,())))) aA.2.2.2.2.1).bind fun aB=>
  if ((decide (aA.2.2.2.2.1=([]:List UInt8)))||(decide ((200:Int)<(List.length aA.2.2.2.2.1:Int))))=true then
   q6 (tQ (O.1,(aA.1,(aA.2.1,(aA.2.2.1,((O.2.2.2.2.1.1,(O.2.2.2.2.1.2.1,(O.2.2.2.2.1.2.2.1,(O.2.2.2.2.1.2.2.2.1,())))),(O.2.2.2.2.2.1,())))))) (aA.2.2.2.1,(aA.2.2.2.2.1,(aA.2.2.2.2.2.1,(aA.2.2.2.2.2.2,())))) (3:Int)) fun aC=>
   some ((aA.1,aC.1,aC.2,O.2.2.2.2.1.2.2.2.1,O.2.2.2.2.2.1))
  else
   if aB.2=true then
    q6 (tQ (O.1,(aA.1,(aA.2.1,(aA.2.2.1,((O.2.2.2.2.1.1,(O.2.2.2.2.1.2.1,(O.2.2.2.2.1.2.2.1,(O.2.2.2.2.1.2.2.2.1,())))),(O.2.2.2.2.2.1,())))))) (aA.2.2.2.1,(aA.2.2.2.2.1,(aA.2.2.2.2.2.1,(aA.2.2.2.2.2.2,())))) (9:Int)) fun aD=>
    some ((aA.1,aD.1,aD.2,O.2.2.2.2.1.2.2.2.1,O.2.2.2.2.2.1))
   else
    if (decide ((1000:Int)≤(List.length O.2.2.2.2.1.2.2.2.1:Int)))=true then
     q6 (tQ (O.1,(aA.1,(aA.2.1,(aA.2.2.1,((O.2.2.2.2.1.1,(O.2.2.2.2.1.2.1,(O.2.2.2.2.1.2.2.1,(O.2.2.2.2.1.2.2.2.1,())))),(O.2.2.2.2.2.1,())))))) (aA.2.2.2.1,(aA.2.2.2.2.1,(aA.2.2.2.2.2.1,(aA.2.2.2.2.2.2,())))) (6:Int)) fun aE=>
     some ((aA.1,aE.1,aE.2,O.2.2.2.2.1.2.2.2.1,O.2.2.2.2.2.1))
    else
     (uY (O.1,(aA.1,(aA.2.1,(aA.2.2.1,((O.2.2.2.2.1.1,(O.2.2.2.2.1.2.1,(O.2.2.2.2.1.2.2.1,(O.2.2.2.2.1.2.2.2.1,())))),(O.2.2.2.2.2.1,())))))) (aA.2.2.2.2.1,(([]:List UInt8),(([]:List UInt8),(([]:List (List UInt8)),(([]:List (List UInt8)),((0:Int),(([]:List p9),()))))))) false).bind fun aF=>
     if (List.length ([]:List pX)+List.length O.2.2.2.2.1.2.2.2.1)*128≤140737488355328 then
      if (List.length (([]:List pX)++O.2.2.2.2.1.2.2.2.1)+List.length ([(aA.2.2.2.2.1,(aF.2.2.2.2.1,(aF.2.2.2.2.2.1,(aF.2.2.2.2.2.2.1,(aF.2.2.2.2.2.2.2.1,(aF.2.2.2.2.2.2.2.2.1,(aF.2.2.2.2.2.2.2.2.2,())))))))]:List pX))*128≤140737488355328 then
       some ((aF.1,aF.2.1,aF.2.2.1,((([]:List pX)++O.2.2.2.2.1.2.2.2.1)++([(aA.2.2.2.2.1,(aF.2.2.2.2.1,(aF.2.2.2.2.2.1,(aF.2.2.2.2.2.2.1,(aF.2.2.2.2.2.2.2.1,(aF.2.2.2.2.2.2.2.2.1,(aF.2.2.2.2.2.2.2.2.2,())))))))]:List pX)),aF.2.2.2.1))
      else none
     else none
section
variable (O:tD)
@[reducible] def a2v:List Slot:=[(.val rZ O,none)]
@[reducible] def a2w:List Blk:=[]
@[go_sem] def a2x:Ret:=⟨[((AS O)).isSome=true],[(.val rZ (O.1,((val (AS O)).1,((val (AS O)).2.1,((val (AS O)).2.2.1,((O.2.2.2.2.1.1,(O.2.2.2.2.1.2.1,(O.2.2.2.2.1.2.2.1,((val (AS O)).2.2.2.1,())))),((val (AS O)).2.2.2.2,())))))),none)],[]⟩
def aA1:List Slot→List Blk→Option Ret:=pM (V:=tD) (fun x=>a2v x) (fun x=>a2w) fun x=>a2x x
@[go_sem] theorem aMn:aA1 (no_index (a2v O)) (no_index a2w)=some (a2x O):=pN (fun a0 b0 h1 h2=>by cases h1;cases h2;rfl) O
end
@[reducible,go_sem] def aA2:Nat×Sig:=(45,⟨[.v],aA1,[],[],none⟩)
theorem wX:Env Tryz.prog [q7,HS,AH,vH,yU,AF,AG] (pE [GJ,a78,EA,a2a]):=⟨⟨q9,⟨OM,⟨CN,⟨wQ,⟨AI,⟨CL,⟨CM,trivial⟩⟩⟩⟩⟩⟩⟩,p5 IH (p5 aF0 (p5 G4 (p5 aAQ pP))),pH⟩
theorem aGZ:pI Tryz.prog aA2:=by
 refine pO wX Tryz.func45 (c:=_) rfl (N:=75) (by kernel_rfl) (ts:=[(2,some 91)]) rfl (fun _ _=>rfl) ?_
 intro O hs hrow
 dsimp only[a2v,a2w,a2x,pJ,enumH,pD,pG,pL,Nat.reduceAdd] at hs hrow⊢
 have hz:=hs
 obtain⟨z0,hC0⟩:=Option.isSome_iff_exists.1 hz
 try rw[pW hC0]
 clear hz hs
 unfold AS at hC0
 refine oS wX ?_
 obtain⟨Z,hv1,hw1,hC0⟩:=p8 hC0
 try simp only[go_sem] at hw1
 refine oS wX ?_ (hp:=by exact(p7 hv1)) (h:=by simp only[go_sem,hw1];rfl)
 obtain⟨aA,hv2,hw2,hC0⟩:=p8 hC0
 try simp only[go_sem] at hw2
 refine oS wX ?_ (hp:=by exact(p7 hv2)) (h:=by simp only[go_sem,hw2];rfl)
 refine p4 ?_
 refine oS wX ?_
 refine oX hC0 (fun hC0 hc1=> ?_) (fun hC0 hc1=> ?_)
 ·refine oS wX ?_
  refine oV (pC ?_)
  cases hC0
  exact⟨[],by rfl,by rfl,by rfl⟩
 ·refine p6 (oW ?_)
  obtain⟨aB,hv3,hw3,hC0⟩:=p8 hC0
  try simp only[go_sem] at hw3
  refine oS wX ?_ (hp:=by exact(p7 hv3)) (h:=by simp only[go_sem,hw3];rfl)
  refine p4 (pT ?_)
  refine oS wX ?_ (hp:=by exact And.intro (fun hh=>hh) (And.intro (fun hh=>hh) (And.intro (fun hh=>hh) ((fun hh=>sF hh)))))
  refine oX hC0 (fun hC0 hc2=> ?_) (fun hC0 hc2=> ?_)
  ·obtain⟨aC,hw_32,hC0⟩:=rI hC0
   try simp only[go_sem] at hw_32
   refine oS wX ?_ (h:=by simp only[go_sem,hw_32];rfl)
   refine oV (pS (pC ?_))
   cases hC0
   exact⟨[],by rfl,by rfl,by rfl⟩
  ·refine oS wX ?_
   refine oX hC0 (fun hC0 hc3=> ?_) (fun hC0 hc3=> ?_)
   ·obtain⟨aD,hw_35,hC0⟩:=rI hC0
    try simp only[go_sem] at hw_35
    refine oS wX ?_ (h:=by simp only[go_sem,hw_35];rfl)
    refine oV (pS (pC ?_))
    cases hC0
    exact⟨[],by rfl,by rfl,by rfl⟩
   ·refine oS wX ?_
    refine oX hC0 (fun hC0 hc4=> ?_) (fun hC0 hc4=> ?_)
    ·obtain⟨aE,hw_37,hC0⟩:=rI hC0
     try simp only[go_sem] at hw_37
     refine oS wX ?_ (h:=by simp only[go_sem,hw_37];rfl)
     refine oV (pS (pC ?_))
     cases hC0
     exact⟨[],by rfl,by rfl,by rfl⟩
    ·refine p6 (pB (oW ?_))
     obtain⟨aF,hv4,hw4,hC0⟩:=p8 hC0
     try simp only[go_sem] at hw4
     refine oS wX ?_ (hp:=by exact(p7 hv4)) (h:=by simp only[go_sem,hw4];rfl)
     obtain⟨hg5,hC0⟩:=oU hC0
     obtain⟨hg6,hC0⟩:=oU hC0
     refine qK wX ?_ (hp:=by exact And.intro (by first|exact rfl|exact trivial) (And.intro hg5 (And.intro (by first|exact rfl|exact trivial) (hg6))))
     refine oS wX ?_
     refine oV ?_
     cases hC0
     exact⟨[],by rfl,by rfl,by rfl⟩
attribute [irreducible] AS
def uZ (O:((List UInt8)×(Int×Unit))) (Z:qA) (aA:Int) (aB:Int) (aC:qB) (aD:((List Int)×(Int×Unit))) (aE:(List ((List UInt8)×Bool))):Option (Int×Int×(List UInt8)×Int×Int×Int×Int×Int):=
 (wU O Z aA aB aC aD (1:Int) false aE).bind fun aF=>
 some ((aF.1,aF.2.1,aF.2.2.1,aF.2.2.2.1,aF.2.2.2.2.1,aF.2.2.2.2.2.1,aF.2.2.2.2.2.2.1,aF.2.2.2.2.2.2.2))
section
variable (O:((List UInt8)×(Int×Unit))) (Z:qA) (aA:Int) (aB:Int) (aC:qB) (aD:((List Int)×(Int×Unit))) (aE:Nat) (aF:Nat) (aG:(List ((List UInt8)×Bool)))
@[reducible] def a2y:List Slot:=[(.val .ref (some (0,0)),none)]
@[reducible] def a2z:List Blk:=[.cells q8 (O,(Z,(aA,(aB,(aC,((some 3),aD)))))) [(11,1),(13,2)],.grow 52 7 aE,.grow 3 1 aF,.map .str .bool aG]
@[go_sem] def a2A:Ret:=⟨[aE=(List.length aC.2.2.2.1),aF=(List.length aD.1),((uZ O Z aA aB aC aD aG)).isSome=true],[(.val .str Z.2.1,none)],[.cells q8 ((O.1,((val (uZ O Z aA aB aC aD aG)).1,())),(((val (uZ O Z aA aB aC aD aG)).2.1,((val (uZ O Z aA aB aC aD aG)).2.2.1,((val (uZ O Z aA aB aC aD aG)).2.2.2.1,((val (uZ O Z aA aB aC aD aG)).2.2.2.2.1,())))),((val (uZ O Z aA aB aC aD aG)).2.2.2.2.2.1,((val (uZ O Z aA aB aC aD aG)).2.2.2.2.2.2.1,((aC.1,(aC.2.1,(aC.2.2.1,(aC.2.2.2.1,())))),((some 3),(aD.1,((val (uZ O Z aA aB aC aD aG)).2.2.2.2.2.2.2,())))))))) [(11,1),(13,2)],.grow 52 7 (List.length aC.2.2.2.1),.grow 3 1 (List.length aD.1),.map .str .bool aG]⟩
def aA3:List Slot→List Blk→Option Ret:=pM (V:=(((List UInt8)×(Int×Unit))×qA×Int×Int×qB×((List Int)×(Int×Unit))×Nat×Nat×(List ((List UInt8)×Bool)))) (fun x=>a2y) (fun x=>a2z x.1 x.2.1 x.2.2.1 x.2.2.2.1 x.2.2.2.2.1 x.2.2.2.2.2.1 x.2.2.2.2.2.2.1 x.2.2.2.2.2.2.2.1 x.2.2.2.2.2.2.2.2) fun x=>a2A x.1 x.2.1 x.2.2.1 x.2.2.2.1 x.2.2.2.2.1 x.2.2.2.2.2.1 x.2.2.2.2.2.2.1 x.2.2.2.2.2.2.2.1 x.2.2.2.2.2.2.2.2
@[go_sem] theorem aMo:aA3 (no_index a2y) (no_index (a2z O Z aA aB aC aD aE aF aG))=some (a2A O Z aA aB aC aD aE aF aG):=pN (fun⟨a0,a1,a2,a3,a4,a5,a6,a7,a8⟩ ⟨b0,b1,b2,b3,b4,b5,b6,b7,b8⟩ h1 h2=>by cases h1;cases h2;rfl) (O,Z,aA,aB,aC,aD,aE,aF,aG)
end
@[reducible,go_sem] def DC:Nat×Sig:=(186,⟨[.p q8 [11,13]],aA3,[(0,12,.m)],[1,2,3],none⟩)
theorem a2B:Env Tryz.prog [] (pE [aAX]):=⟨trivial,p5 aGW pP,pH⟩
theorem P7:pI Tryz.prog DC:=by
 refine pO a2B Tryz.func186 (c:=_) rfl (N:=5) (by kernel_rfl) (ts:=[(2,none)]) rfl (fun _ _=>rfl) ?_
 intro⟨O,Z,aA,aB,aC,aD,aE,aF,aG⟩ hs hrow
 dsimp only[a2y,a2z,a2A,pJ,enumH,pD,pG,pL,Nat.reduceAdd] at hs hrow⊢
 obtain⟨rfl,rfl,hz⟩:=hs
 obtain⟨z0,hC0⟩:=Option.isSome_iff_exists.1 hz
 try rw[pW hC0]
 clear hz
 unfold uZ at hC0
 refine oS a2B ?_
 obtain⟨aH,hv1,hw1,hC0⟩:=p8 hC0
 try simp only[go_sem] at hw1
 refine oS a2B ?_ (hp:=by exact And.intro (by first|exact rfl|exact trivial) (And.intro (by first|exact rfl|exact trivial) (And.intro (by first|exact rfl|exact trivial) (And.intro (by first|exact rfl|exact trivial) (And.intro (by first|exact rfl|exact trivial) ((p7 hv1))))))) (h:=by simp only[go_sem,hw1];rfl)
 refine oV ?_
 cases hC0
 exact⟨[(0,0),(1,1),(2,2),(3,3)],by rfl,by rfl,by rfl⟩
attribute [irreducible] uZ
end
end Go.Proofs.YtfchbnahjcdiiaaGreatDoor
namespace Go.Proofs.YtfchbnahjcdiiaaGreatDoor
open Vc
set_option maxRecDepth 100000
set_option maxHeartbeats 4000000
set_option linter.unusedSimpArgs false
set_option linter.unusedVariables false
noncomputable section
def wY (O:((List UInt8)×(Int×Unit))) (Z:qA) (aA:Int) (aB:Int) (aC:qB) (aD:((List Int)×(Int×Unit))) (aE:Int) (aF:Bool) (aG:(List ((List UInt8)×Bool))) (aH:(List UInt8)) (aI:(List UInt8)) (aJ:(List UInt8)) (aK:(List (List UInt8))) (aL:(Int×((List p9)×Unit))) (aM:Bool) (aN:(List (List UInt8))) (aO:(List ((List UInt8)×Bool))):Option (Int×Int×(List UInt8)×Int×Int×Int×Int×Int):=
 if (((!decide (Z.1=aE))==false)=true→((BL Z.2.1)).isSome=true) then
  if ((!decide (Z.1=aE))||(!(val (BL Z.2.1))))=true then
   q6 (s7 O Z aA aB aC aD (3:Int) aG) fun aP=>
   (qP (O.1,(O.2.1,())) (Z.1,(Z.2.1,(Z.2.2.1,(Z.2.2.2.1,())))) aP.1 aP.2 (aC.1,(aC.2.1,(aC.2.2.1,(aC.2.2.2.1,())))) (aD.1,(aD.2.1,())) aG).bind fun aQ=>
   some ((aQ.1,aQ.2.1,aQ.2.2.1,aQ.2.2.2.1,aQ.2.2.2.2.1,aP.1,aP.2,aQ.2.2.2.2.2))
  else
   (GI Z.2.1 aH aI aJ aK aL aM aN aO).bind fun aR=>
   if aR=true then
    q6 (s7 O Z aA aB aC aD (9:Int) aG) fun aS=>
    (qP (O.1,(O.2.1,())) (Z.1,(Z.2.1,(Z.2.2.1,(Z.2.2.2.1,())))) aS.1 aS.2 (aC.1,(aC.2.1,(aC.2.2.1,(aC.2.2.2.1,())))) (aD.1,(aD.2.1,())) aG).bind fun aT=>
    some ((aT.1,aT.2.1,aT.2.2.1,aT.2.2.2.1,aT.2.2.2.2.1,aS.1,aS.2,aT.2.2.2.2.2))
   else
    if aF=true then
     q6 (s7 O Z aA aB aC aD (6:Int) aG) fun aU=>
     (qP (O.1,(O.2.1,())) (Z.1,(Z.2.1,(Z.2.2.1,(Z.2.2.2.1,())))) aU.1 aU.2 (aC.1,(aC.2.1,(aC.2.2.1,(aC.2.2.2.1,())))) (aD.1,(aD.2.1,())) aG).bind fun aV=>
     some ((aV.1,aV.2.1,aV.2.2.1,aV.2.2.2.1,aV.2.2.2.2.1,aU.1,aU.2,aV.2.2.2.2.2))
    else
     (qP O Z aA aB aC aD aG).bind fun aW=>
     some ((aW.1,aW.2.1,aW.2.2.1,aW.2.2.2.1,aW.2.2.2.2.1,aA,aB,aW.2.2.2.2.2))
 else none
section
variable (O:Int) (Z:Bool) (aA:((List UInt8)×(Int×Unit))) (aB:qA) (aC:Int) (aD:Int) (aE:qB) (aF:((List Int)×(Int×Unit))) (aG:Nat) (aH:Nat) (aI:(List ((List UInt8)×Bool))) (aJ:(List UInt8)) (aK:(List UInt8)) (aL:(List UInt8)) (aM:(List (List UInt8))) (aN:Nat) (aO:(Int×((List p9)×Unit))) (aP:Bool) (aQ:Nat) (aR:Nat) (aS:(List (List UInt8))) (aT:Nat) (aU:(List ((List UInt8)×Bool)))
@[reducible] def a2C:List Slot:=[(.val .ref (some (0,0)),none),(.val (.int .i64) O,none),(.val .clo (some (128,[])),none),(.val .clo (some (187,[(3,0)])),none),(.val .bool Z,none)]
@[reducible] def a2D:List Blk:=[.cells q8 (aA,(aB,(aC,(aD,(aE,((some 4),aF)))))) [(11,1),(13,2)],.grow 52 7 aG,.grow 3 1 aH,.cells .ref (some (5,0)) [],.map .str .bool aI,.cells r8 ((aJ,(aK,(aL,(aM,((some (8,aN)),aO))))),(aP,((some 9),()))) [(3,6),(6,7)],.grow 9 1 aQ,.grow 144 2 aR,.row 9 .str aS aT,.map .str .bool aU]
@[go_sem] def a2E:Ret:=⟨[aG=(List.length aE.2.2.2.1),aH=(List.length aF.1),aQ=(List.length aM),aR=(List.length aO.2.1),aN=aT,((wY aA aB aC aD aE aF O Z aI aJ aK aL aM aO aP aS aU)).isSome=true],[(.val .str aB.2.1,none)],[.cells q8 ((aA.1,((val (wY aA aB aC aD aE aF O Z aI aJ aK aL aM aO aP aS aU)).1,())),(((val (wY aA aB aC aD aE aF O Z aI aJ aK aL aM aO aP aS aU)).2.1,((val (wY aA aB aC aD aE aF O Z aI aJ aK aL aM aO aP aS aU)).2.2.1,((val (wY aA aB aC aD aE aF O Z aI aJ aK aL aM aO aP aS aU)).2.2.2.1,((val (wY aA aB aC aD aE aF O Z aI aJ aK aL aM aO aP aS aU)).2.2.2.2.1,())))),((val (wY aA aB aC aD aE aF O Z aI aJ aK aL aM aO aP aS aU)).2.2.2.2.2.1,((val (wY aA aB aC aD aE aF O Z aI aJ aK aL aM aO aP aS aU)).2.2.2.2.2.2.1,((aE.1,(aE.2.1,(aE.2.2.1,(aE.2.2.2.1,())))),((some 4),(aF.1,((val (wY aA aB aC aD aE aF O Z aI aJ aK aL aM aO aP aS aU)).2.2.2.2.2.2.2,())))))))) [(11,1),(13,2)],.grow 52 7 (List.length aE.2.2.2.1),.grow 3 1 (List.length aF.1),.cells .ref (some (5,0)) [],.map .str .bool aI,.cells r8 ((aJ,(aK,(aL,(aM,((some (8,(List.length aS))),(aO.1,(aO.2.1,()))))))),(aP,((some 9),()))) [(3,6),(6,7)],.grow 9 1 (List.length aM),.grow 144 2 (List.length aO.2.1),.row 9 .str aS (List.length aS),.map .str .bool aU]⟩
def aA4:List Slot→List Blk→Option Ret:=pM (V:=(Int×Bool×((List UInt8)×(Int×Unit))×qA×Int×Int×qB×((List Int)×(Int×Unit))×Nat×Nat×(List ((List UInt8)×Bool))×(List UInt8)×(List UInt8)×(List UInt8)×(List (List UInt8))×Nat×(Int×((List p9)×Unit))×Bool×Nat×Nat×(List (List UInt8))×Nat×(List ((List UInt8)×Bool)))) (fun x=>a2C x.1 x.2.1) (fun x=>a2D x.2.2.1 x.2.2.2.1 x.2.2.2.2.1 x.2.2.2.2.2.1 x.2.2.2.2.2.2.1 x.2.2.2.2.2.2.2.1 x.2.2.2.2.2.2.2.2.1 x.2.2.2.2.2.2.2.2.2.1 x.2.2.2.2.2.2.2.2.2.2.1 x.2.2.2.2.2.2.2.2.2.2.2.1 x.2.2.2.2.2.2.2.2.2.2.2.2.1 x.2.2.2.2.2.2.2.2.2.2.2.2.2.1 x.2.2.2.2.2.2.2.2.2.2.2.2.2.2.1 x.2.2.2.2.2.2.2.2.2.2.2.2.2.2.2.1 x.2.2.2.2.2.2.2.2.2.2.2.2.2.2.2.2.1 x.2.2.2.2.2.2.2.2.2.2.2.2.2.2.2.2.2.1 x.2.2.2.2.2.2.2.2.2.2.2.2.2.2.2.2.2.2.1 x.2.2.2.2.2.2.2.2.2.2.2.2.2.2.2.2.2.2.2.1 x.2.2.2.2.2.2.2.2.2.2.2.2.2.2.2.2.2.2.2.2.1 x.2.2.2.2.2.2.2.2.2.2.2.2.2.2.2.2.2.2.2.2.2.1 x.2.2.2.2.2.2.2.2.2.2.2.2.2.2.2.2.2.2.2.2.2.2) fun x=>a2E x.1 x.2.1 x.2.2.1 x.2.2.2.1 x.2.2.2.2.1 x.2.2.2.2.2.1 x.2.2.2.2.2.2.1 x.2.2.2.2.2.2.2.1 x.2.2.2.2.2.2.2.2.1 x.2.2.2.2.2.2.2.2.2.1 x.2.2.2.2.2.2.2.2.2.2.1 x.2.2.2.2.2.2.2.2.2.2.2.1 x.2.2.2.2.2.2.2.2.2.2.2.2.1 x.2.2.2.2.2.2.2.2.2.2.2.2.2.1 x.2.2.2.2.2.2.2.2.2.2.2.2.2.2.1 x.2.2.2.2.2.2.2.2.2.2.2.2.2.2.2.1 x.2.2.2.2.2.2.2.2.2.2.2.2.2.2.2.2.1 x.2.2.2.2.2.2.2.2.2.2.2.2.2.2.2.2.2.1 x.2.2.2.2.2.2.2.2.2.2.2.2.2.2.2.2.2.2.1 x.2.2.2.2.2.2.2.2.2.2.2.2.2.2.2.2.2.2.2.1 x.2.2.2.2.2.2.2.2.2.2.2.2.2.2.2.2.2.2.2.2.1 x.2.2.2.2.2.2.2.2.2.2.2.2.2.2.2.2.2.2.2.2.2.1 x.2.2.2.2.2.2.2.2.2.2.2.2.2.2.2.2.2.2.2.2.2.2
@[go_sem] theorem aMp:aA4 (no_index (a2C O Z)) (no_index (a2D aA aB aC aD aE aF aG aH aI aJ aK aL aM aN aO aP aQ aR aS aT aU))=some (a2E O Z aA aB aC aD aE aF aG aH aI aJ aK aL aM aN aO aP aQ aR aS aT aU):=pN (fun⟨a0,a1,a2,a3,a4,a5,a6,a7,a8,a9,a10,a11,a12,a13,a14,a15,a16,a17,a18,a19,a20,a21,a22⟩ ⟨b0,b1,b2,b3,b4,b5,b6,b7,b8,b9,b10,b11,b12,b13,b14,qI,b16,b17,b18,b19,b20,b21,b22⟩ h1 h2=>by cases h1;cases h2;rfl) (O,Z,aA,aB,aC,aD,aE,aF,aG,aH,aI,aJ,aK,aL,aM,aN,aO,aP,aQ,aR,aS,aT,aU)
end
@[reducible,go_sem] def a2F:Nat×Sig:=(70,⟨[.p q8 [11,13],.v,.v,.f [(.ref,[])],.v],aA4,[(0,12,.m),(3,0,.p r8 [3,6]),(5,4,.r),(5,8,.m)],[1,2,3,4,5,6,7,8,9],none⟩)
theorem aA5:Env Tryz.prog [] (pE [L1,wT,vK,a0Z]):=⟨trivial,p5 a8z (p5 BK (p5 AR (p5 aGG pP))),pH⟩
theorem wZ:Env Tryz.prog [s5,q7,wR,uV] (pE [L1,wT,vK,a0Z]):=⟨⟨sG,⟨q9,⟨yB,⟨w6,trivial⟩⟩⟩⟩,aA5.Γ,pH⟩
theorem aG0:pI Tryz.prog a2F:=by
 refine pO aA5 Tryz.func70 (c:=_) rfl (N:=46) (by kernel_rfl) (ts:=[(10,none)]) rfl (fun _ _=>rfl) ?_
 intro⟨O,Z,aA,aB,aC,aD,aE,aF,aG,aH,aI,aJ,aK,aL,aM,aN,aO,aP,aQ,aR,aS,aT,aU⟩ hs hrow
 dsimp only[a2C,a2D,a2E,pJ,enumH,pD,pG,pL,Nat.reduceAdd] at hs hrow⊢
 obtain⟨rfl,rfl,rfl,rfl,rfl,hz⟩:=hs
 obtain⟨rfl,_⟩:=hrow
 obtain⟨z0,hC0⟩:=Option.isSome_iff_exists.1 hz
 try rw[pW hC0]
 clear hz
 unfold wY at hC0
 refine oS wZ ?_
 refine oS wZ ?_
 refine p4 (pT ?_)
 obtain⟨hg1,hC0⟩:=oU hC0
 refine oS wZ ?_ (hp:=by exact And.intro (fun hh=>hh) (And.intro (fun hh=>hh) (And.intro hg1 (And.intro (fun hh=>hh) ((fun hh=>sF hh))))))
 refine oX hC0 (fun hC0 hc1=> ?_) (fun hC0 hc1=> ?_)
 ·obtain⟨aV,hw_40,hC0⟩:=rI hC0
  try simp only[go_sem] at hw_40
  refine pF wZ ?_ (hp:=by exact And.intro (by first|exact rfl|exact trivial) (And.intro (by first|exact rfl|exact trivial) (And.intro (by first|exact rfl|exact trivial) (And.intro (by first|exact rfl|exact trivial) ((by first|exact rfl|exact trivial)))))) (h:=by simp only[go_sem,hw_40];rfl)
  refine pB (oW ?_)
  obtain⟨aW,hv2,hw2,hC0⟩:=p8 hC0
  try simp only[go_sem] at hw2
  refine oS wZ ?_ (hp:=by exact And.intro (by first|exact rfl|exact trivial) (And.intro (by first|exact rfl|exact trivial) (And.intro (by first|exact rfl|exact trivial) (And.intro (by first|exact rfl|exact trivial) (And.intro (by first|exact rfl|exact trivial) ((p7 hv2))))))) (h:=by simp only[go_sem,hw2];rfl)
  refine oS wZ ?_
  refine oV ?_
  cases hC0
  exact⟨[(0,0),(1,1),(2,2),(3,3),(4,4),(5,5),(6,6),(7,7),(8,8),(9,9)],by rfl,by rfl,by rfl⟩
 ·obtain⟨aX,hv3,hw3,hC0⟩:=p8 hC0
  try simp only[go_sem] at hw3
  refine oS wZ ?_ (hp:=by exact And.intro (by first|exact rfl|exact trivial) (And.intro (by first|exact rfl|exact trivial) (And.intro (by first|exact rfl|exact trivial) (And.intro (by first|exact rfl|exact trivial) (And.intro (by first|exact rfl|exact trivial) (And.intro (by first|exact rfl|exact trivial) (And.intro (by first|exact rfl|exact trivial) (And.intro (by first|exact rfl|exact trivial) (And.intro (by first|exact rfl|exact trivial) ((p7 hv3))))))))))) (h:=by simp only[go_sem,hw3];rfl)
  refine oX hC0 (fun hC0 hc2=> ?_) (fun hC0 hc2=> ?_)
  ·obtain⟨aY,hw_43,hC0⟩:=rI hC0
   try simp only[go_sem] at hw_43
   refine pF wZ ?_ (hp:=by exact And.intro (by first|exact rfl|exact trivial) (And.intro (by first|exact rfl|exact trivial) (And.intro (by first|exact rfl|exact trivial) (And.intro (by first|exact rfl|exact trivial) ((by first|exact rfl|exact trivial)))))) (h:=by simp only[go_sem,hw_43];rfl)
   refine pB (oW ?_)
   obtain⟨aZ,hv4,hw4,hC0⟩:=p8 hC0
   try simp only[go_sem] at hw4
   refine oS wZ ?_ (hp:=by exact And.intro (by first|exact rfl|exact trivial) (And.intro (by first|exact rfl|exact trivial) (And.intro (by first|exact rfl|exact trivial) (And.intro (by first|exact rfl|exact trivial) (And.intro (by first|exact rfl|exact trivial) ((p7 hv4))))))) (h:=by simp only[go_sem,hw4];rfl)
   refine oS wZ ?_
   refine oV ?_
   cases hC0
   exact⟨[(0,0),(1,1),(2,2),(3,3),(4,4),(5,5),(6,6),(7,7),(8,8),(9,9)],by rfl,by rfl,by rfl⟩
  ·refine oS wZ ?_
   refine oX hC0 (fun hC0 hc3=> ?_) (fun hC0 hc3=> ?_)
   ·obtain⟨bA,hw_45,hC0⟩:=rI hC0
    try simp only[go_sem] at hw_45
    refine pF wZ ?_ (hp:=by exact And.intro (by first|exact rfl|exact trivial) (And.intro (by first|exact rfl|exact trivial) (And.intro (by first|exact rfl|exact trivial) (And.intro (by first|exact rfl|exact trivial) ((by first|exact rfl|exact trivial)))))) (h:=by simp only[go_sem,hw_45];rfl)
    refine pB (oW ?_)
    obtain⟨bB,hv5,hw5,hC0⟩:=p8 hC0
    try simp only[go_sem] at hw5
    refine oS wZ ?_ (hp:=by exact And.intro (by first|exact rfl|exact trivial) (And.intro (by first|exact rfl|exact trivial) (And.intro (by first|exact rfl|exact trivial) (And.intro (by first|exact rfl|exact trivial) (And.intro (by first|exact rfl|exact trivial) ((p7 hv5))))))) (h:=by simp only[go_sem,hw5];rfl)
    refine oS wZ ?_
    refine oV ?_
    cases hC0
    exact⟨[(0,0),(1,1),(2,2),(3,3),(4,4),(5,5),(6,6),(7,7),(8,8),(9,9)],by rfl,by rfl,by rfl⟩
   ·refine p6 (pB (oW ?_))
    obtain⟨bC,hv6,hw6,hC0⟩:=p8 hC0
    try simp only[go_sem] at hw6
    refine oS wZ ?_ (hp:=by exact And.intro (by first|exact rfl|exact trivial) (And.intro (by first|exact rfl|exact trivial) (And.intro (by first|exact rfl|exact trivial) (And.intro (by first|exact rfl|exact trivial) (And.intro (by first|exact rfl|exact trivial) ((p7 hv6))))))) (h:=by simp only[go_sem,hw6];rfl)
    refine oS wZ ?_
    refine oV ?_
    cases hC0
    exact⟨[(0,0),(1,1),(2,2),(3,3),(4,4),(5,5),(6,6),(7,7),(8,8),(9,9)],by rfl,by rfl,by rfl⟩
attribute [irreducible] wY
def v6 (O:((List UInt8)×(Int×Unit))) (Z:qA) (aA:Int) (aB:Int) (aC:qB) (aD:((List Int)×(Int×Unit))) (aE:Int) (aF:(List UInt8)) (aG:(List ((List UInt8)×Bool))):Option (Int×Int×(List UInt8)×Int×Int×Int×Int×Int):=
 if (!(((decide (aB=(0:Int)))&&(decide (Z.1=aE)))&&(decide (Z.2.1=aF))))=true then
  q6 (s7 O Z aA aB aC aD (3:Int) aG) fun aH=>
  (qP (O.1,(O.2.1,())) (Z.1,(Z.2.1,(Z.2.2.1,(Z.2.2.2.1,())))) aH.1 aH.2 (aC.1,(aC.2.1,(aC.2.2.1,(aC.2.2.2.1,())))) (aD.1,(aD.2.1,())) aG).bind fun aI=>
  some ((aI.1,aI.2.1,aI.2.2.1,aI.2.2.2.1,aI.2.2.2.2.1,aH.1,aH.2,aI.2.2.2.2.2))
 else
  (qP O Z aA aB aC aD aG).bind fun aJ=>
  some ((aJ.1,aJ.2.1,aJ.2.2.1,aJ.2.2.2.1,aJ.2.2.2.2.1,aA,aB,aJ.2.2.2.2.2))
section
variable (O:Int) (Z:(List UInt8)) (aA:((List UInt8)×(Int×Unit))) (aB:qA) (aC:Int) (aD:Int) (aE:qB) (aF:((List Int)×(Int×Unit))) (aG:Nat) (aH:Nat) (aI:(List ((List UInt8)×Bool)))
@[reducible] def a2G:List Slot:=[(.val .ref (some (0,0)),none),(.val (.int .i64) O,none),(.val .str Z,none)]
@[reducible] def a2H:List Blk:=[.cells q8 (aA,(aB,(aC,(aD,(aE,((some 3),aF)))))) [(11,1),(13,2)],.grow 52 7 aG,.grow 3 1 aH,.map .str .bool aI]
@[go_sem] def a2I:Ret:=⟨[aG=(List.length aE.2.2.2.1),aH=(List.length aF.1),((v6 aA aB aC aD aE aF O Z aI)).isSome=true],[],[.cells q8 ((aA.1,((val (v6 aA aB aC aD aE aF O Z aI)).1,())),(((val (v6 aA aB aC aD aE aF O Z aI)).2.1,((val (v6 aA aB aC aD aE aF O Z aI)).2.2.1,((val (v6 aA aB aC aD aE aF O Z aI)).2.2.2.1,((val (v6 aA aB aC aD aE aF O Z aI)).2.2.2.2.1,())))),((val (v6 aA aB aC aD aE aF O Z aI)).2.2.2.2.2.1,((val (v6 aA aB aC aD aE aF O Z aI)).2.2.2.2.2.2.1,((aE.1,(aE.2.1,(aE.2.2.1,(aE.2.2.2.1,())))),((some 3),(aF.1,((val (v6 aA aB aC aD aE aF O Z aI)).2.2.2.2.2.2.2,())))))))) [(11,1),(13,2)],.grow 52 7 (List.length aE.2.2.2.1),.grow 3 1 (List.length aF.1),.map .str .bool aI]⟩
def aA6:List Slot→List Blk→Option Ret:=pM (V:=(Int×(List UInt8)×((List UInt8)×(Int×Unit))×qA×Int×Int×qB×((List Int)×(Int×Unit))×Nat×Nat×(List ((List UInt8)×Bool)))) (fun x=>a2G x.1 x.2.1) (fun x=>a2H x.2.2.1 x.2.2.2.1 x.2.2.2.2.1 x.2.2.2.2.2.1 x.2.2.2.2.2.2.1 x.2.2.2.2.2.2.2.1 x.2.2.2.2.2.2.2.2.1 x.2.2.2.2.2.2.2.2.2.1 x.2.2.2.2.2.2.2.2.2.2) fun x=>a2I x.1 x.2.1 x.2.2.1 x.2.2.2.1 x.2.2.2.2.1 x.2.2.2.2.2.1 x.2.2.2.2.2.2.1 x.2.2.2.2.2.2.2.1 x.2.2.2.2.2.2.2.2.1 x.2.2.2.2.2.2.2.2.2.1 x.2.2.2.2.2.2.2.2.2.2
@[go_sem] theorem aMq:aA6 (no_index (a2G O Z)) (no_index (a2H aA aB aC aD aE aF aG aH aI))=some (a2I O Z aA aB aC aD aE aF aG aH aI):=pN (fun⟨a0,a1,a2,a3,a4,a5,a6,a7,a8,a9,a10⟩ ⟨b0,b1,b2,b3,b4,b5,b6,b7,b8,b9,b10⟩ h1 h2=>by cases h1;cases h2;rfl) (O,Z,aA,aB,aC,aD,aE,aF,aG,aH,aI)
end
@[reducible,go_sem] def LL:Nat×Sig:=(69,⟨[.p q8 [11,13],.v,.v],aA6,[(0,12,.m)],[1,2,3],none⟩)
theorem LM:Env Tryz.prog [] (pE [a8i,wT,vK]):=⟨trivial,p5 aF3 (p5 BK (p5 AR pP)),pH⟩
theorem a2J:pI Tryz.prog LL:=by
 refine pO LM Tryz.func69 (c:=_) rfl (N:=15) (by kernel_rfl) (ts:=[]) rfl (fun _ _=>rfl) ?_
 intro⟨O,Z,aA,aB,aC,aD,aE,aF,aG,aH,aI⟩ hs hrow
 dsimp only[a2G,a2H,a2I,pJ,enumH,pD,pG,pL,Nat.reduceAdd] at hs hrow⊢
 obtain⟨rfl,rfl,hz⟩:=hs
 obtain⟨z0,hC0⟩:=Option.isSome_iff_exists.1 hz
 try rw[pW hC0]
 clear hz
 unfold v6 at hC0
 refine p4 ?_
 refine oS LM ?_ (hp:=by exact And.intro (by first|exact rfl|exact trivial) (And.intro (by first|exact rfl|exact trivial) (And.intro (by first|exact rfl|exact trivial) (And.intro (by first|exact rfl|exact trivial) (And.intro (by first|exact rfl|exact trivial) ((by first|exact rfl|exact trivial)))))))
 refine oX hC0 (fun hC0 hc1=> ?_) (fun hC0 hc1=> ?_)
 ·obtain⟨aJ,hw_23,hC0⟩:=rI hC0
  try simp only[go_sem] at hw_23
  refine pF LM ?_ (hp:=by exact And.intro (by first|exact rfl|exact trivial) (And.intro (by first|exact rfl|exact trivial) (And.intro (by first|exact rfl|exact trivial) (And.intro (by first|exact rfl|exact trivial) ((by first|exact rfl|exact trivial)))))) (h:=by simp only[go_sem,hw_23];rfl)
  refine oW ?_
  obtain⟨aK,hv1,hw1,hC0⟩:=p8 hC0
  try simp only[go_sem] at hw1
  refine pF LM ?_ (hp:=by exact And.intro (by first|exact rfl|exact trivial) (And.intro (by first|exact rfl|exact trivial) (And.intro (by first|exact rfl|exact trivial) (And.intro (by first|exact rfl|exact trivial) (And.intro (by first|exact rfl|exact trivial) ((p7 hv1))))))) (h:=by simp only[go_sem,hw1];rfl)
  cases hC0
  exact⟨[(0,0),(1,1),(2,2),(3,3)],by rfl,by rfl,by rfl⟩
 ·refine p6 (oW ?_)
  obtain⟨aL,hv2,hw2,hC0⟩:=p8 hC0
  try simp only[go_sem] at hw2
  refine pF LM ?_ (hp:=by exact And.intro (by first|exact rfl|exact trivial) (And.intro (by first|exact rfl|exact trivial) (And.intro (by first|exact rfl|exact trivial) (And.intro (by first|exact rfl|exact trivial) (And.intro (by first|exact rfl|exact trivial) ((p7 hv2))))))) (h:=by simp only[go_sem,hw2];rfl)
  cases hC0
  exact⟨[(0,0),(1,1),(2,2),(3,3)],by rfl,by rfl,by rfl⟩
attribute [irreducible] v6
end
end Go.Proofs.YtfchbnahjcdiiaaGreatDoor
namespace Go.Proofs.YtfchbnahjcdiiaaGreatDoor
open Vc
set_option maxRecDepth 100000
set_option maxHeartbeats 4000000
set_option linter.unusedSimpArgs false
set_option linter.unusedVariables false
noncomputable section
def x9 (O:((List UInt8)×(Int×Unit))) (Z:qA) (aA:Int) (aB:Int) (aC:qB) (aD:((List Int)×(Int×Unit))) (aE:Int) (aF:Bool) (aG:(List ((List UInt8)×Bool))) (aH:(List UInt8)) (aI:(List UInt8)) (aJ:(List UInt8)) (aK:(List (List UInt8))) (aL:(Int×((List p9)×Unit))) (aM:Bool) (aN:(List (List UInt8))) (aO:(List ((List UInt8)×Bool))):Option (Int×Int×(List UInt8)×Int×Int×Int×Int×Int):=
 if (((!decide (Z.1=aE))==false)=true→((BL Z.2.1)).isSome=true) then
  if ((!decide (Z.1=aE))||(!(val (BL Z.2.1))))=true then
   q6 (s7 O Z aA aB aC aD (3:Int) aG) fun aP=>
   (qP (O.1,(O.2.1,())) (Z.1,(Z.2.1,(Z.2.2.1,(Z.2.2.2.1,())))) aP.1 aP.2 (aC.1,(aC.2.1,(aC.2.2.1,(aC.2.2.2.1,())))) (aD.1,(aD.2.1,())) aG).bind fun aQ=>
   some ((aQ.1,aQ.2.1,aQ.2.2.1,aQ.2.2.2.1,aQ.2.2.2.2.1,aP.1,aP.2,aQ.2.2.2.2.2))
  else
   (GH Z.2.1 aH aI aJ aK aL aM aN aO).bind fun aR=>
   if aR=true then
    q6 (s7 O Z aA aB aC aD (9:Int) aG) fun aS=>
    (qP (O.1,(O.2.1,())) (Z.1,(Z.2.1,(Z.2.2.1,(Z.2.2.2.1,())))) aS.1 aS.2 (aC.1,(aC.2.1,(aC.2.2.1,(aC.2.2.2.1,())))) (aD.1,(aD.2.1,())) aG).bind fun aT=>
    some ((aT.1,aT.2.1,aT.2.2.1,aT.2.2.2.1,aT.2.2.2.2.1,aS.1,aS.2,aT.2.2.2.2.2))
   else
    if aF=true then
     q6 (s7 O Z aA aB aC aD (6:Int) aG) fun aU=>
     (qP (O.1,(O.2.1,())) (Z.1,(Z.2.1,(Z.2.2.1,(Z.2.2.2.1,())))) aU.1 aU.2 (aC.1,(aC.2.1,(aC.2.2.1,(aC.2.2.2.1,())))) (aD.1,(aD.2.1,())) aG).bind fun aV=>
     some ((aV.1,aV.2.1,aV.2.2.1,aV.2.2.2.1,aV.2.2.2.2.1,aU.1,aU.2,aV.2.2.2.2.2))
    else
     (qP O Z aA aB aC aD aG).bind fun aW=>
     some ((aW.1,aW.2.1,aW.2.2.1,aW.2.2.2.1,aW.2.2.2.2.1,aA,aB,aW.2.2.2.2.2))
 else none
section
variable (O:Int) (Z:Bool) (aA:((List UInt8)×(Int×Unit))) (aB:qA) (aC:Int) (aD:Int) (aE:qB) (aF:((List Int)×(Int×Unit))) (aG:Nat) (aH:Nat) (aI:(List ((List UInt8)×Bool))) (aJ:(List UInt8)) (aK:(List UInt8)) (aL:(List UInt8)) (aM:(List (List UInt8))) (aN:Nat) (aO:(Int×((List p9)×Unit))) (aP:Bool) (aQ:Nat) (aR:Nat) (aS:(List (List UInt8))) (aT:Nat) (aU:(List ((List UInt8)×Bool)))
@[reducible] def a2K:List Slot:=[(.val .ref (some (0,0)),none),(.val (.int .i64) O,none),(.val .clo (some (128,[])),none),(.val .clo (some (192,[(3,0)])),none),(.val .bool Z,none)]
@[reducible] def a2L:List Blk:=[.cells q8 (aA,(aB,(aC,(aD,(aE,((some 4),aF)))))) [(11,1),(13,2)],.grow 52 7 aG,.grow 3 1 aH,.cells .ref (some (5,0)) [],.map .str .bool aI,.cells r8 ((aJ,(aK,(aL,(aM,((some (8,aN)),aO))))),(aP,((some 9),()))) [(3,6),(6,7)],.grow 9 1 aQ,.grow 144 2 aR,.row 9 .str aS aT,.map .str .bool aU]
@[go_sem] def a2M:Ret:=⟨[aG=(List.length aE.2.2.2.1),aH=(List.length aF.1),aQ=(List.length aM),aR=(List.length aO.2.1),aN=aT,((x9 aA aB aC aD aE aF O Z aI aJ aK aL aM aO aP aS aU)).isSome=true],[(.val .str aB.2.1,none)],[.cells q8 ((aA.1,((val (x9 aA aB aC aD aE aF O Z aI aJ aK aL aM aO aP aS aU)).1,())),(((val (x9 aA aB aC aD aE aF O Z aI aJ aK aL aM aO aP aS aU)).2.1,((val (x9 aA aB aC aD aE aF O Z aI aJ aK aL aM aO aP aS aU)).2.2.1,((val (x9 aA aB aC aD aE aF O Z aI aJ aK aL aM aO aP aS aU)).2.2.2.1,((val (x9 aA aB aC aD aE aF O Z aI aJ aK aL aM aO aP aS aU)).2.2.2.2.1,())))),((val (x9 aA aB aC aD aE aF O Z aI aJ aK aL aM aO aP aS aU)).2.2.2.2.2.1,((val (x9 aA aB aC aD aE aF O Z aI aJ aK aL aM aO aP aS aU)).2.2.2.2.2.2.1,((aE.1,(aE.2.1,(aE.2.2.1,(aE.2.2.2.1,())))),((some 4),(aF.1,((val (x9 aA aB aC aD aE aF O Z aI aJ aK aL aM aO aP aS aU)).2.2.2.2.2.2.2,())))))))) [(11,1),(13,2)],.grow 52 7 (List.length aE.2.2.2.1),.grow 3 1 (List.length aF.1),.cells .ref (some (5,0)) [],.map .str .bool aI,.cells r8 ((aJ,(aK,(aL,(aM,((some (8,(List.length aS))),(aO.1,(aO.2.1,()))))))),(aP,((some 9),()))) [(3,6),(6,7)],.grow 9 1 (List.length aM),.grow 144 2 (List.length aO.2.1),.row 9 .str aS (List.length aS),.map .str .bool aU]⟩
def aA7:List Slot→List Blk→Option Ret:=pM (V:=(Int×Bool×((List UInt8)×(Int×Unit))×qA×Int×Int×qB×((List Int)×(Int×Unit))×Nat×Nat×(List ((List UInt8)×Bool))×(List UInt8)×(List UInt8)×(List UInt8)×(List (List UInt8))×Nat×(Int×((List p9)×Unit))×Bool×Nat×Nat×(List (List UInt8))×Nat×(List ((List UInt8)×Bool)))) (fun x=>a2K x.1 x.2.1) (fun x=>a2L x.2.2.1 x.2.2.2.1 x.2.2.2.2.1 x.2.2.2.2.2.1 x.2.2.2.2.2.2.1 x.2.2.2.2.2.2.2.1 x.2.2.2.2.2.2.2.2.1 x.2.2.2.2.2.2.2.2.2.1 x.2.2.2.2.2.2.2.2.2.2.1 x.2.2.2.2.2.2.2.2.2.2.2.1 x.2.2.2.2.2.2.2.2.2.2.2.2.1 x.2.2.2.2.2.2.2.2.2.2.2.2.2.1 x.2.2.2.2.2.2.2.2.2.2.2.2.2.2.1 x.2.2.2.2.2.2.2.2.2.2.2.2.2.2.2.1 x.2.2.2.2.2.2.2.2.2.2.2.2.2.2.2.2.1 x.2.2.2.2.2.2.2.2.2.2.2.2.2.2.2.2.2.1 x.2.2.2.2.2.2.2.2.2.2.2.2.2.2.2.2.2.2.1 x.2.2.2.2.2.2.2.2.2.2.2.2.2.2.2.2.2.2.2.1 x.2.2.2.2.2.2.2.2.2.2.2.2.2.2.2.2.2.2.2.2.1 x.2.2.2.2.2.2.2.2.2.2.2.2.2.2.2.2.2.2.2.2.2.1 x.2.2.2.2.2.2.2.2.2.2.2.2.2.2.2.2.2.2.2.2.2.2) fun x=>a2M x.1 x.2.1 x.2.2.1 x.2.2.2.1 x.2.2.2.2.1 x.2.2.2.2.2.1 x.2.2.2.2.2.2.1 x.2.2.2.2.2.2.2.1 x.2.2.2.2.2.2.2.2.1 x.2.2.2.2.2.2.2.2.2.1 x.2.2.2.2.2.2.2.2.2.2.1 x.2.2.2.2.2.2.2.2.2.2.2.1 x.2.2.2.2.2.2.2.2.2.2.2.2.1 x.2.2.2.2.2.2.2.2.2.2.2.2.2.1 x.2.2.2.2.2.2.2.2.2.2.2.2.2.2.1 x.2.2.2.2.2.2.2.2.2.2.2.2.2.2.2.1 x.2.2.2.2.2.2.2.2.2.2.2.2.2.2.2.2.1 x.2.2.2.2.2.2.2.2.2.2.2.2.2.2.2.2.2.1 x.2.2.2.2.2.2.2.2.2.2.2.2.2.2.2.2.2.2.1 x.2.2.2.2.2.2.2.2.2.2.2.2.2.2.2.2.2.2.2.1 x.2.2.2.2.2.2.2.2.2.2.2.2.2.2.2.2.2.2.2.2.1 x.2.2.2.2.2.2.2.2.2.2.2.2.2.2.2.2.2.2.2.2.2.1 x.2.2.2.2.2.2.2.2.2.2.2.2.2.2.2.2.2.2.2.2.2.2
@[go_sem] theorem aMr:aA7 (no_index (a2K O Z)) (no_index (a2L aA aB aC aD aE aF aG aH aI aJ aK aL aM aN aO aP aQ aR aS aT aU))=some (a2M O Z aA aB aC aD aE aF aG aH aI aJ aK aL aM aN aO aP aQ aR aS aT aU):=pN (fun⟨a0,a1,a2,a3,a4,a5,a6,a7,a8,a9,a10,a11,a12,a13,a14,a15,a16,a17,a18,a19,a20,a21,a22⟩ ⟨b0,b1,b2,b3,b4,b5,b6,b7,b8,b9,b10,b11,b12,b13,b14,qI,b16,b17,b18,b19,b20,b21,b22⟩ h1 h2=>by cases h1;cases h2;rfl) (O,Z,aA,aB,aC,aD,aE,aF,aG,aH,aI,aJ,aK,aL,aM,aN,aO,aP,aQ,aR,aS,aT,aU)
end
@[reducible,go_sem] def a2N:Nat×Sig:=(70,⟨[.p q8 [11,13],.v,.v,.f [(.ref,[])],.v],aA7,[(0,12,.m),(3,0,.p r8 [3,6]),(5,4,.r),(5,8,.m)],[1,2,3,4,5,6,7,8,9],none⟩)
theorem aA8:Env Tryz.prog [] (pE [L1,wT,vK,a0A]):=⟨trivial,p5 a8z (p5 BK (p5 AR (p5 aGA pP))),pH⟩
theorem xA:Env Tryz.prog [s5,q7,wR,uV] (pE [L1,wT,vK,a0A]):=⟨⟨sG,⟨q9,⟨yB,⟨w6,trivial⟩⟩⟩⟩,aA8.Γ,pH⟩
theorem aG1:pI Tryz.prog a2N:=by
 refine pO aA8 Tryz.func70 (c:=_) rfl (N:=46) (by kernel_rfl) (ts:=[(10,none)]) rfl (fun _ _=>rfl) ?_
 intro⟨O,Z,aA,aB,aC,aD,aE,aF,aG,aH,aI,aJ,aK,aL,aM,aN,aO,aP,aQ,aR,aS,aT,aU⟩ hs hrow
 dsimp only[a2K,a2L,a2M,pJ,enumH,pD,pG,pL,Nat.reduceAdd] at hs hrow⊢
 obtain⟨rfl,rfl,rfl,rfl,rfl,hz⟩:=hs
 obtain⟨rfl,_⟩:=hrow
 obtain⟨z0,hC0⟩:=Option.isSome_iff_exists.1 hz
 try rw[pW hC0]
 clear hz
 unfold x9 at hC0
 refine oS xA ?_
 refine oS xA ?_
 refine p4 (pT ?_)
 obtain⟨hg1,hC0⟩:=oU hC0
 refine oS xA ?_ (hp:=by exact And.intro (fun hh=>hh) (And.intro (fun hh=>hh) (And.intro hg1 (And.intro (fun hh=>hh) ((fun hh=>sF hh))))))
 refine oX hC0 (fun hC0 hc1=> ?_) (fun hC0 hc1=> ?_)
 ·obtain⟨aV,hw_40,hC0⟩:=rI hC0
  try simp only[go_sem] at hw_40
  refine pF xA ?_ (hp:=by exact And.intro (by first|exact rfl|exact trivial) (And.intro (by first|exact rfl|exact trivial) (And.intro (by first|exact rfl|exact trivial) (And.intro (by first|exact rfl|exact trivial) ((by first|exact rfl|exact trivial)))))) (h:=by simp only[go_sem,hw_40];rfl)
  refine pB (oW ?_)
  obtain⟨aW,hv2,hw2,hC0⟩:=p8 hC0
  try simp only[go_sem] at hw2
  refine oS xA ?_ (hp:=by exact And.intro (by first|exact rfl|exact trivial) (And.intro (by first|exact rfl|exact trivial) (And.intro (by first|exact rfl|exact trivial) (And.intro (by first|exact rfl|exact trivial) (And.intro (by first|exact rfl|exact trivial) ((p7 hv2))))))) (h:=by simp only[go_sem,hw2];rfl)
  refine oS xA ?_
  refine oV ?_
  cases hC0
  exact⟨[(0,0),(1,1),(2,2),(3,3),(4,4),(5,5),(6,6),(7,7),(8,8),(9,9)],by rfl,by rfl,by rfl⟩
 ·obtain⟨aX,hv3,hw3,hC0⟩:=p8 hC0
  try simp only[go_sem] at hw3
  refine oS xA ?_ (hp:=by exact And.intro (by first|exact rfl|exact trivial) (And.intro (by first|exact rfl|exact trivial) (And.intro (by first|exact rfl|exact trivial) (And.intro (by first|exact rfl|exact trivial) (And.intro (by first|exact rfl|exact trivial) (And.intro (by first|exact rfl|exact trivial) (And.intro (by first|exact rfl|exact trivial) (And.intro (by first|exact rfl|exact trivial) (And.intro (by first|exact rfl|exact trivial) ((p7 hv3))))))))))) (h:=by simp only[go_sem,hw3];rfl)
  refine oX hC0 (fun hC0 hc2=> ?_) (fun hC0 hc2=> ?_)
  ·obtain⟨aY,hw_43,hC0⟩:=rI hC0
   try simp only[go_sem] at hw_43
   refine pF xA ?_ (hp:=by exact And.intro (by first|exact rfl|exact trivial) (And.intro (by first|exact rfl|exact trivial) (And.intro (by first|exact rfl|exact trivial) (And.intro (by first|exact rfl|exact trivial) ((by first|exact rfl|exact trivial)))))) (h:=by simp only[go_sem,hw_43];rfl)
   refine pB (oW ?_)
   obtain⟨aZ,hv4,hw4,hC0⟩:=p8 hC0
   try simp only[go_sem] at hw4
   refine oS xA ?_ (hp:=by exact And.intro (by first|exact rfl|exact trivial) (And.intro (by first|exact rfl|exact trivial) (And.intro (by first|exact rfl|exact trivial) (And.intro (by first|exact rfl|exact trivial) (And.intro (by first|exact rfl|exact trivial) ((p7 hv4))))))) (h:=by simp only[go_sem,hw4];rfl)
   refine oS xA ?_
   refine oV ?_
   cases hC0
   exact⟨[(0,0),(1,1),(2,2),(3,3),(4,4),(5,5),(6,6),(7,7),(8,8),(9,9)],by rfl,by rfl,by rfl⟩
  ·refine oS xA ?_
   refine oX hC0 (fun hC0 hc3=> ?_) (fun hC0 hc3=> ?_)
   ·obtain⟨bA,hw_45,hC0⟩:=rI hC0
    try simp only[go_sem] at hw_45
    refine pF xA ?_ (hp:=by exact And.intro (by first|exact rfl|exact trivial) (And.intro (by first|exact rfl|exact trivial) (And.intro (by first|exact rfl|exact trivial) (And.intro (by first|exact rfl|exact trivial) ((by first|exact rfl|exact trivial)))))) (h:=by simp only[go_sem,hw_45];rfl)
    refine pB (oW ?_)
    obtain⟨bB,hv5,hw5,hC0⟩:=p8 hC0
    try simp only[go_sem] at hw5
    refine oS xA ?_ (hp:=by exact And.intro (by first|exact rfl|exact trivial) (And.intro (by first|exact rfl|exact trivial) (And.intro (by first|exact rfl|exact trivial) (And.intro (by first|exact rfl|exact trivial) (And.intro (by first|exact rfl|exact trivial) ((p7 hv5))))))) (h:=by simp only[go_sem,hw5];rfl)
    refine oS xA ?_
    refine oV ?_
    cases hC0
    exact⟨[(0,0),(1,1),(2,2),(3,3),(4,4),(5,5),(6,6),(7,7),(8,8),(9,9)],by rfl,by rfl,by rfl⟩
   ·refine p6 (pB (oW ?_))
    obtain⟨bC,hv6,hw6,hC0⟩:=p8 hC0
    try simp only[go_sem] at hw6
    refine oS xA ?_ (hp:=by exact And.intro (by first|exact rfl|exact trivial) (And.intro (by first|exact rfl|exact trivial) (And.intro (by first|exact rfl|exact trivial) (And.intro (by first|exact rfl|exact trivial) (And.intro (by first|exact rfl|exact trivial) ((p7 hv6))))))) (h:=by simp only[go_sem,hw6];rfl)
    refine oS xA ?_
    refine oV ?_
    cases hC0
    exact⟨[(0,0),(1,1),(2,2),(3,3),(4,4),(5,5),(6,6),(7,7),(8,8),(9,9)],by rfl,by rfl,by rfl⟩
attribute [irreducible] x9
def AT (O:(List UInt8)) (Z:(Int×Int×Int×(List UInt8)×(List (List UInt8))×(List p9)×(List Int))):(Int×Int×Int×(List pX)×(List Int))→Option ((Int×Int×Int×(List pX)×(List Int))⊕(Int×Int×Int×(List pX)×(List Int))):=fun(aA,aB,aC,aD,aE)=>
 if (((decide (aC=(0:Int)))==true)=true→((D0 O aA)).isSome=true) then
  if ((decide (aC=(0:Int)))&&(decide ((val (D0 O aA))<(List.length O:Int))))=true then
   (AS (O,(aA,(aB,(aC,((Z.2.2.2.1,(Z.2.2.2.2.1,(Z.2.2.2.2.2.1,(aD,())))),(aE,()))))))).bind fun aF=>
   some (.inl (aF.1,aF.2.1,aF.2.2.1,aF.2.2.2.1,aF.2.2.2.2))
  else
   some (.inr (aA,aB,aC,aD,aE))
 else none
def zB (O:(List UInt8)):Option ((List UInt8)×(List (List UInt8))×(List p9)×(List pX)×(List Int)×Int×Int):=
 (yE (O,((0:Int),((0:Int),((0:Int),((([]:List UInt8),(([]:List (List UInt8)),(([]:List p9),(([]:List pX),())))),(([]:List Int),()))))))).bind fun Z=>
 qD (pR (AT O Z) (Z.1,Z.2.1,Z.2.2.1,([]:List pX),Z.2.2.2.2.2.2)) fun(aA,aB,aC,aD,aE)=>
 if (!decide (aC=(0:Int)))=true then
  some ((([]:List UInt8),([]:List (List UInt8)),([]:List p9),([]:List pX),([]:List Int),aB,aC))
 else
  some ((Z.2.2.2.1,Z.2.2.2.2.1,Z.2.2.2.2.2.1,aD,aE,(0:Int),(0:Int)))
section
variable (O:(List UInt8))
@[reducible] def a2O:List Slot:=[(.val .str O,none)]
@[reducible] def a2P:List Blk:=[]
@[go_sem] def a2Q:Ret:=⟨[((zB O)).isSome=true],[(.val vF ((val (zB O)).1,((val (zB O)).2.1,((val (zB O)).2.2.1,((val (zB O)).2.2.2.1,())))),none),(.val (.list (.int .i64)) ((val (zB O)).2.2.2.2.1),none),(.val (.int .i64) ((val (zB O)).2.2.2.2.2.1),none),(.val (.int .i64) ((val (zB O)).2.2.2.2.2.2),none)],[]⟩
def aA9:List Slot→List Blk→Option Ret:=pM (V:=(List UInt8)) (fun x=>a2O x) (fun x=>a2P) fun x=>a2Q x
@[go_sem] theorem aMs:aA9 (no_index (a2O O)) (no_index a2P)=some (a2Q O):=pN (fun a0 b0 h1 h2=>by cases h1;cases h2;rfl) O
end
@[reducible,go_sem] def aBa:Nat×Sig:=(28,⟨[.v],aA9,[],[],none⟩)
theorem EZ:Env Tryz.prog [s5,q7,AH,vH,AL,AF] (pE [aAV,ZO,aA2]):=⟨⟨sG,⟨q9,⟨CN,⟨wQ,⟨CP,⟨CL,trivial⟩⟩⟩⟩⟩⟩,p5 aGV (p5 a9F (p5 aGZ pP)),pH⟩
theorem aG2:pI Tryz.prog aBa:=by
 refine pO EZ Tryz.func28 (c:=_) rfl (N:=36) (by kernel_rfl) (ts:=[(2,some 27),(3,none),(4,none),(5,none)]) rfl (fun _ _=>rfl) ?_
 intro O hs hrow
 dsimp only[a2O,a2P,a2Q,pJ,enumH,pD,pG,pL,Nat.reduceAdd] at hs hrow⊢
 have hz:=hs
 obtain⟨z0,hC0⟩:=Option.isSome_iff_exists.1 hz
 try rw[pW hC0]
 clear hz hs
 unfold zB at hC0
 refine oS EZ ?_
 obtain⟨Z,hv1,hw1,hC0⟩:=p8 hC0
 try simp only[go_sem] at hw1
 refine oS EZ ?_ (hp:=by exact(p7 hv1)) (h:=by simp only[go_sem,hw1];rfl)
 refine p4 (pT ?_)
 obtain⟨y1,hy1,hC0⟩:=oY hC0
 refine rH 0 (fun s=>s=(fun x=>⟨[(2,(.val .ref (some (0,0)),none)),(6,(.val .ref (some (1,0)),none))],[(0,.cells vF (([]:List UInt8),(([]:List (List UInt8)),(([]:List p9),(([]:List pX),())))) [(1,2),(2,3),(3,4)]),(1,.cells rZ (O,(x.1,(x.2.1,(x.2.2.1,((Z.2.2.2.1,(Z.2.2.2.2.1,(Z.2.2.2.2.2.1,(x.2.2.2.1,())))),(x.2.2.2.2,())))))) []),(2,.grow 9 1 (List.length ([]:List (List UInt8)))),(3,.grow 144 2 (List.length ([]:List p9))),(4,.grow 52 7 (List.length ([]:List pX)))],5,36,0⟩) y1) ?_ ?_
 ·refine rG hy1 (fun x=>⟨[(0,(.val .str O,none)),(2,(.val .ref (some (0,0)),none)),(6,(.val .ref (some (1,0)),none))],[(0,.cells vF (([]:List UInt8),(([]:List (List UInt8)),(([]:List p9),(([]:List pX),())))) [(1,2),(2,3),(3,4)]),(1,.cells rZ (O,(x.1,(x.2.1,(x.2.2.1,((Z.2.2.2.1,(Z.2.2.2.2.1,(Z.2.2.2.2.2.1,(x.2.2.2.1,())))),(x.2.2.2.2,())))))) []),(2,.grow 9 1 (List.length ([]:List (List UInt8)))),(3,.grow 144 2 (List.length ([]:List p9))),(4,.grow 52 7 (List.length ([]:List pX)))],5,36,0⟩) ⟨[0,2,6],[(0,0),(1,112),(2,1),(3,2),(4,3)]⟩ (by rfl) ?_
  intro x1 w1 n1 hC1 hN1
  obtain⟨aA,aB,aC,aD,aE⟩:=x1
  unfold AT at hC1
  dsimp only at hC1⊢
  refine p4 ?_
  obtain⟨hg2,hC1⟩:=oU hC1
  refine oS EZ ?_ (hp:=by exact And.intro (fun hh=>hh) (And.intro (fun hh=>hh) (And.intro (fun hh=>hh) (And.intro hg2 (And.intro (fun hh=>hh) (And.intro (fun hh=>hh) (And.intro (fun hh=>hh) ((fun hh=>pZ hh)))))))))
  refine oX hC1 (fun hC1 hc1=> ?_) (fun hC1 hc1=> ?_)
  ·refine p6 (oW (pT ?_))
   obtain⟨aF,hv3,hw3,hC1⟩:=p8 hC1
   try simp only[go_sem] at hw3
   refine pF EZ ?_ (hp:=by exact(p7 hv3)) (h:=by simp only[go_sem,hw3];rfl)
   refine pB ?_
   cases hC1
   exact qG ⟨⟨[0,2,6],[(0,0),(1,1),(2,2),(3,3),(4,4)]⟩,_,by rfl,hN1⟩
  ·refine qW (r7 (qZ ?_))
   cases hC1
   cases hN1
   exact qY ⟨⟨[2,6],[(0,0),(1,1),(2,2),(3,3),(4,4)]⟩,by rfl⟩
 ·rintro _ rfl
  obtain⟨aG,aH,aI,aJ,aK⟩:=y1
  dsimp only at hC0⊢
  refine rE (oW (p4 ?_))
  refine oS EZ ?_
  refine oX hC0 (fun hC0 hc2=> ?_) (fun hC0 hc2=> ?_)
  ·refine qK EZ ?_
   refine oV (pC ?_)
   cases hC0
   exact⟨[],by rfl,by rfl,by rfl⟩
  ·refine p6 (oW ?_)
   refine qK EZ ?_
   refine oV ?_
   cases hC0
   exact⟨[],by rfl,by rfl,by rfl⟩
attribute [irreducible] zB
end
end Go.Proofs.YtfchbnahjcdiiaaGreatDoor
namespace Go.Proofs.YtfchbnahjcdiiaaGreatDoor
open Vc
set_option maxRecDepth 100000
set_option maxHeartbeats 4000000
set_option linter.unusedSimpArgs false
set_option linter.unusedVariables false
noncomputable section
def xB (O:((List UInt8)×(Int×Unit))) (Z:qA) (aA:Int) (aB:Int) (aC:qB) (aD:((List Int)×(Int×Unit))) (aE:Int) (aF:Bool) (aG:(List ((List UInt8)×Bool))):Option (Int×Int×(List UInt8)×Int×Int×Int×Int×Int):=
 if ((!decide (Z.1=aE))||(!((!decide (Z.2.1=([]:List UInt8)))&&(decide ((List.length Z.2.1:Int)≤(200:Int))))))=true then
  q6 (s7 O Z aA aB aC aD (3:Int) aG) fun aH=>
  (qP (O.1,(O.2.1,())) (Z.1,(Z.2.1,(Z.2.2.1,(Z.2.2.2.1,())))) aH.1 aH.2 (aC.1,(aC.2.1,(aC.2.2.1,(aC.2.2.2.1,())))) (aD.1,(aD.2.1,())) aG).bind fun aI=>
  some ((aI.1,aI.2.1,aI.2.2.1,aI.2.2.2.1,aI.2.2.2.2.1,aH.1,aH.2,aI.2.2.2.2.2))
 else
  if (qE .str .bool aG Z.2.1)=true then
   q6 (s7 O Z aA aB aC aD (9:Int) aG) fun aJ=>
   (qP (O.1,(O.2.1,())) (Z.1,(Z.2.1,(Z.2.2.1,(Z.2.2.2.1,())))) aJ.1 aJ.2 (aC.1,(aC.2.1,(aC.2.2.1,(aC.2.2.2.1,())))) (aD.1,(aD.2.1,())) aG).bind fun aK=>
   some ((aK.1,aK.2.1,aK.2.2.1,aK.2.2.2.1,aK.2.2.2.2.1,aJ.1,aJ.2,aK.2.2.2.2.2))
  else
   if aF=true then
    q6 (s7 O Z aA aB aC aD (6:Int) aG) fun aL=>
    (qP (O.1,(O.2.1,())) (Z.1,(Z.2.1,(Z.2.2.1,(Z.2.2.2.1,())))) aL.1 aL.2 (aC.1,(aC.2.1,(aC.2.2.1,(aC.2.2.2.1,())))) (aD.1,(aD.2.1,())) aG).bind fun aM=>
    some ((aM.1,aM.2.1,aM.2.2.1,aM.2.2.2.1,aM.2.2.2.2.1,aL.1,aL.2,aM.2.2.2.2.2))
   else
    (qP O Z aA aB aC aD aG).bind fun aN=>
    some ((aN.1,aN.2.1,aN.2.2.1,aN.2.2.2.1,aN.2.2.2.2.1,aA,aB,aN.2.2.2.2.2))
section
variable (O:Int) (Z:Bool) (aA:((List UInt8)×(Int×Unit))) (aB:qA) (aC:Int) (aD:Int) (aE:qB) (aF:((List Int)×(Int×Unit))) (aG:Nat) (aH:Nat) (aI:(List ((List UInt8)×Bool)))
@[reducible] def a2R:List Slot:=[(.val .ref (some (0,0)),none),(.val (.int .i64) O,none),(.val .clo (some (74,[])),none),(.val .clo (some (75,[(3,0)])),none),(.val .bool Z,none)]
@[reducible] def a2S:List Blk:=[.cells q8 (aA,(aB,(aC,(aD,(aE,((some 4),aF)))))) [(11,1),(13,2)],.grow 52 7 aG,.grow 3 1 aH,.cells .ref (some (0,0)) [],.map .str .bool aI]
@[go_sem] def a2T:Ret:=⟨[aG=(List.length aE.2.2.2.1),aH=(List.length aF.1),((xB aA aB aC aD aE aF O Z aI)).isSome=true],[(.val .str aB.2.1,none)],[.cells q8 ((aA.1,((val (xB aA aB aC aD aE aF O Z aI)).1,())),(((val (xB aA aB aC aD aE aF O Z aI)).2.1,((val (xB aA aB aC aD aE aF O Z aI)).2.2.1,((val (xB aA aB aC aD aE aF O Z aI)).2.2.2.1,((val (xB aA aB aC aD aE aF O Z aI)).2.2.2.2.1,())))),((val (xB aA aB aC aD aE aF O Z aI)).2.2.2.2.2.1,((val (xB aA aB aC aD aE aF O Z aI)).2.2.2.2.2.2.1,((aE.1,(aE.2.1,(aE.2.2.1,(aE.2.2.2.1,())))),((some 4),(aF.1,((val (xB aA aB aC aD aE aF O Z aI)).2.2.2.2.2.2.2,())))))))) [(11,1),(13,2)],.grow 52 7 (List.length aE.2.2.2.1),.grow 3 1 (List.length aF.1),.cells .ref (some (0,0)) [],.map .str .bool aI]⟩
def aBb:List Slot→List Blk→Option Ret:=pM (V:=(Int×Bool×((List UInt8)×(Int×Unit))×qA×Int×Int×qB×((List Int)×(Int×Unit))×Nat×Nat×(List ((List UInt8)×Bool)))) (fun x=>a2R x.1 x.2.1) (fun x=>a2S x.2.2.1 x.2.2.2.1 x.2.2.2.2.1 x.2.2.2.2.2.1 x.2.2.2.2.2.2.1 x.2.2.2.2.2.2.2.1 x.2.2.2.2.2.2.2.2.1 x.2.2.2.2.2.2.2.2.2.1 x.2.2.2.2.2.2.2.2.2.2) fun x=>a2T x.1 x.2.1 x.2.2.1 x.2.2.2.1 x.2.2.2.2.1 x.2.2.2.2.2.1 x.2.2.2.2.2.2.1 x.2.2.2.2.2.2.2.1 x.2.2.2.2.2.2.2.2.1 x.2.2.2.2.2.2.2.2.2.1 x.2.2.2.2.2.2.2.2.2.2
@[go_sem] theorem aMt:aBb (no_index (a2R O Z)) (no_index (a2S aA aB aC aD aE aF aG aH aI))=some (a2T O Z aA aB aC aD aE aF aG aH aI):=pN (fun⟨a0,a1,a2,a3,a4,a5,a6,a7,a8,a9,a10⟩ ⟨b0,b1,b2,b3,b4,b5,b6,b7,b8,b9,b10⟩ h1 h2=>by cases h1;cases h2;rfl) (O,Z,aA,aB,aC,aD,aE,aF,aG,aH,aI)
end
@[reducible,go_sem] def aBc:Nat×Sig:=(70,⟨[.p q8 [11,13],.v,.v,.f [(.ref,[])],.v],aBb,[(0,12,.m)],[1,2,3,4],none⟩)
theorem wB:Env Tryz.prog [s5,q7,wR,uV] (pE [a7Y,wT,vK,a74]):=⟨⟨sG,⟨q9,⟨yB,⟨w6,trivial⟩⟩⟩⟩,p5 aFX (p5 BK (p5 AR (p5 aFY pP))),pH⟩
theorem aG3:pI Tryz.prog aBc:=by
 refine pO wB Tryz.func70 (c:=_) rfl (N:=46) (by kernel_rfl) (ts:=[(10,none)]) rfl (fun _ _=>rfl) ?_
 intro⟨O,Z,aA,aB,aC,aD,aE,aF,aG,aH,aI⟩ hs hrow
 dsimp only[a2R,a2S,a2T,pJ,enumH,pD,pG,pL,Nat.reduceAdd] at hs hrow⊢
 obtain⟨rfl,rfl,hz⟩:=hs
 obtain⟨z0,hC0⟩:=Option.isSome_iff_exists.1 hz
 try rw[pW hC0]
 clear hz
 unfold xB at hC0
 refine oS wB ?_
 refine oS wB ?_
 refine p4 (pT ?_)
 refine oS wB ?_ (hp:=by exact And.intro (fun hh=>hh) (And.intro (fun hh=>hh) (And.intro (fun hh=>hh) ((fun hh=>sF hh)))))
 refine oX hC0 (fun hC0 hc1=> ?_) (fun hC0 hc1=> ?_)
 ·obtain⟨aJ,hw_27,hC0⟩:=rI hC0
  try simp only[go_sem] at hw_27
  refine pF wB ?_ (hp:=by exact And.intro (by first|exact rfl|exact trivial) (And.intro (by first|exact rfl|exact trivial) (And.intro (by first|exact rfl|exact trivial) (And.intro (by first|exact rfl|exact trivial) ((by first|exact rfl|exact trivial)))))) (h:=by simp only[go_sem,hw_27];rfl)
  refine pB (oW ?_)
  obtain⟨aK,hv1,hw1,hC0⟩:=p8 hC0
  try simp only[go_sem] at hw1
  refine oS wB ?_ (hp:=by exact And.intro (by first|exact rfl|exact trivial) (And.intro (by first|exact rfl|exact trivial) (And.intro (by first|exact rfl|exact trivial) (And.intro (by first|exact rfl|exact trivial) (And.intro (by first|exact rfl|exact trivial) ((p7 hv1))))))) (h:=by simp only[go_sem,hw1];rfl)
  refine oS wB ?_
  refine oV ?_
  cases hC0
  exact⟨[(0,0),(1,1),(2,2),(3,3),(4,4)],by rfl,by rfl,by rfl⟩
 ·refine oS wB ?_ (hp:=by exact And.intro (by first|exact rfl|exact trivial) (And.intro (by first|exact rfl|exact trivial) (And.intro (by first|exact rfl|exact trivial) (And.intro (by first|exact rfl|exact trivial) (And.intro (by first|exact rfl|exact trivial) (And.intro (by first|exact rfl|exact trivial) ((by first|exact rfl|exact trivial))))))))
  refine oX hC0 (fun hC0 hc2=> ?_) (fun hC0 hc2=> ?_)
  ·obtain⟨aL,hw_29,hC0⟩:=rI hC0
   try simp only[go_sem] at hw_29
   refine pF wB ?_ (hp:=by exact And.intro (by first|exact rfl|exact trivial) (And.intro (by first|exact rfl|exact trivial) (And.intro (by first|exact rfl|exact trivial) (And.intro (by first|exact rfl|exact trivial) ((by first|exact rfl|exact trivial)))))) (h:=by simp only[go_sem,hw_29];rfl)
   refine pB (oW ?_)
   obtain⟨aM,hv2,hw2,hC0⟩:=p8 hC0
   try simp only[go_sem] at hw2
   refine oS wB ?_ (hp:=by exact And.intro (by first|exact rfl|exact trivial) (And.intro (by first|exact rfl|exact trivial) (And.intro (by first|exact rfl|exact trivial) (And.intro (by first|exact rfl|exact trivial) (And.intro (by first|exact rfl|exact trivial) ((p7 hv2))))))) (h:=by simp only[go_sem,hw2];rfl)
   refine oS wB ?_
   refine oV ?_
   cases hC0
   exact⟨[(0,0),(1,1),(2,2),(3,3),(4,4)],by rfl,by rfl,by rfl⟩
  ·refine oS wB ?_
   refine oX hC0 (fun hC0 hc3=> ?_) (fun hC0 hc3=> ?_)
   ·obtain⟨aN,hw_31,hC0⟩:=rI hC0
    try simp only[go_sem] at hw_31
    refine pF wB ?_ (hp:=by exact And.intro (by first|exact rfl|exact trivial) (And.intro (by first|exact rfl|exact trivial) (And.intro (by first|exact rfl|exact trivial) (And.intro (by first|exact rfl|exact trivial) ((by first|exact rfl|exact trivial)))))) (h:=by simp only[go_sem,hw_31];rfl)
    refine pB (oW ?_)
    obtain⟨aO,hv3,hw3,hC0⟩:=p8 hC0
    try simp only[go_sem] at hw3
    refine oS wB ?_ (hp:=by exact And.intro (by first|exact rfl|exact trivial) (And.intro (by first|exact rfl|exact trivial) (And.intro (by first|exact rfl|exact trivial) (And.intro (by first|exact rfl|exact trivial) (And.intro (by first|exact rfl|exact trivial) ((p7 hv3))))))) (h:=by simp only[go_sem,hw3];rfl)
    refine oS wB ?_
    refine oV ?_
    cases hC0
    exact⟨[(0,0),(1,1),(2,2),(3,3),(4,4)],by rfl,by rfl,by rfl⟩
   ·refine p6 (pB (oW ?_))
    obtain⟨aP,hv4,hw4,hC0⟩:=p8 hC0
    try simp only[go_sem] at hw4
    refine oS wB ?_ (hp:=by exact And.intro (by first|exact rfl|exact trivial) (And.intro (by first|exact rfl|exact trivial) (And.intro (by first|exact rfl|exact trivial) (And.intro (by first|exact rfl|exact trivial) (And.intro (by first|exact rfl|exact trivial) ((p7 hv4))))))) (h:=by simp only[go_sem,hw4];rfl)
    refine oS wB ?_
    refine oV ?_
    cases hC0
    exact⟨[(0,0),(1,1),(2,2),(3,3),(4,4)],by rfl,by rfl,by rfl⟩
attribute [irreducible] xB
def xO (O:((List UInt8)×(Int×Unit))) (Z:qA) (aA:Int) (aB:Int) (aC:qB) (aD:((List Int)×(Int×Unit))) (aE:(List UInt8)) (aF:(List UInt8)) (aG:(List UInt8)) (aH:(List (List UInt8))) (aI:(Int×((List p9)×Unit))) (aJ:Bool) (aK:(List ((List UInt8)×Bool))) (aL:(List (List UInt8))) (aM:(List ((List UInt8)×Bool))):Option (Int×Int×(List UInt8)×Int×Int×Int×Int×Int×Int):=
 (vL O Z aA aB aC aD aE aF aG aH aI aJ aK aL aM).bind fun aN=>
 (wW (O.1,(aN.1,())) (aN.2.1,(aN.2.2.1,(aN.2.2.2.1,(aN.2.2.2.2.1,())))) aN.2.2.2.2.2.1 aN.2.2.2.2.2.2.1 (aC.1,(aC.2.1,(aC.2.2.1,(aC.2.2.2.1,())))) (aD.1,(aN.2.2.2.2.2.2.2,())) (2:Int) false aK).bind fun aO=>
 (yX ([([110,101,119]:List UInt8),([102,117,122,122,121]:List UInt8),([116,114,97,110,115,108,97,116,101,100]:List UInt8),([114,101,118,105,101,119,101,100]:List UInt8),([111,98,115,111,108,101,116,101]:List UInt8)]:List (List UInt8)) aN.2.2.1).bind fun aP=>
 some ((aO.1,aO.2.1,aO.2.2.1,aO.2.2.2.1,aO.2.2.2.2.1,aO.2.2.2.2.2.1,aO.2.2.2.2.2.2.1,aO.2.2.2.2.2.2.2,(max (0:Int) aP)))
section
variable (O:((List UInt8)×(Int×Unit))) (Z:qA) (aA:Int) (aB:Int) (aC:qB) (aD:((List Int)×(Int×Unit))) (aE:Nat) (aF:Nat) (aG:(List UInt8)) (aH:(List UInt8)) (aI:(List UInt8)) (aJ:(List (List UInt8))) (aK:Nat) (aL:(Int×((List p9)×Unit))) (aM:Bool) (aN:Nat) (aO:Nat) (aP:(List ((List UInt8)×Bool))) (aQ:(List (List UInt8))) (aR:Nat) (aS:(List ((List UInt8)×Bool)))
@[reducible] def a2U:List Slot:=[(.val .ref (some (0,0)),none),(.val .ref (some (3,0)),none)]
@[reducible] def a2V:List Blk:=[.cells q8 (O,(Z,(aA,(aB,(aC,((some 6),aD)))))) [(11,1),(13,2)],.grow 52 7 aE,.grow 3 1 aF,.cells r8 ((aG,(aH,(aI,(aJ,((some (7,aK)),aL))))),(aM,((some 8),()))) [(3,4),(6,5)],.grow 9 1 aN,.grow 144 2 aO,.map .str .bool aP,.row 9 .str aQ aR,.map .str .bool aS]
@[go_sem] def a2W:Ret:=⟨[aE=(List.length aC.2.2.2.1),aF=(List.length aD.1),aN=(List.length aJ),aO=(List.length aL.2.1),aK=aR,((xO O Z aA aB aC aD aG aH aI aJ aL aM aP aQ aS)).isSome=true],[],[.cells q8 ((O.1,((val (xO O Z aA aB aC aD aG aH aI aJ aL aM aP aQ aS)).1,())),(((val (xO O Z aA aB aC aD aG aH aI aJ aL aM aP aQ aS)).2.1,((val (xO O Z aA aB aC aD aG aH aI aJ aL aM aP aQ aS)).2.2.1,((val (xO O Z aA aB aC aD aG aH aI aJ aL aM aP aQ aS)).2.2.2.1,((val (xO O Z aA aB aC aD aG aH aI aJ aL aM aP aQ aS)).2.2.2.2.1,())))),((val (xO O Z aA aB aC aD aG aH aI aJ aL aM aP aQ aS)).2.2.2.2.2.1,((val (xO O Z aA aB aC aD aG aH aI aJ aL aM aP aQ aS)).2.2.2.2.2.2.1,((aC.1,(aC.2.1,(aC.2.2.1,(aC.2.2.2.1,())))),((some 6),(aD.1,((val (xO O Z aA aB aC aD aG aH aI aJ aL aM aP aQ aS)).2.2.2.2.2.2.2.1,())))))))) [(11,1),(13,2)],.grow 52 7 (List.length aC.2.2.2.1),.grow 3 1 (List.length aD.1),.cells r8 ((aG,(aH,(aI,(aJ,((some (7,(List.length aQ))),((val (xO O Z aA aB aC aD aG aH aI aJ aL aM aP aQ aS)).2.2.2.2.2.2.2.2,(aL.2.1,()))))))),(aM,((some 8),()))) [(3,4),(6,5)],.grow 9 1 (List.length aJ),.grow 144 2 (List.length aL.2.1),.map .str .bool aP,.row 9 .str aQ (List.length aQ),.map .str .bool (rB .str .bool Z.2.1 true aS)]⟩
def aBd:List Slot→List Blk→Option Ret:=pM (V:=(((List UInt8)×(Int×Unit))×qA×Int×Int×qB×((List Int)×(Int×Unit))×Nat×Nat×(List UInt8)×(List UInt8)×(List UInt8)×(List (List UInt8))×Nat×(Int×((List p9)×Unit))×Bool×Nat×Nat×(List ((List UInt8)×Bool))×(List (List UInt8))×Nat×(List ((List UInt8)×Bool)))) (fun x=>a2U) (fun x=>a2V x.1 x.2.1 x.2.2.1 x.2.2.2.1 x.2.2.2.2.1 x.2.2.2.2.2.1 x.2.2.2.2.2.2.1 x.2.2.2.2.2.2.2.1 x.2.2.2.2.2.2.2.2.1 x.2.2.2.2.2.2.2.2.2.1 x.2.2.2.2.2.2.2.2.2.2.1 x.2.2.2.2.2.2.2.2.2.2.2.1 x.2.2.2.2.2.2.2.2.2.2.2.2.1 x.2.2.2.2.2.2.2.2.2.2.2.2.2.1 x.2.2.2.2.2.2.2.2.2.2.2.2.2.2.1 x.2.2.2.2.2.2.2.2.2.2.2.2.2.2.2.1 x.2.2.2.2.2.2.2.2.2.2.2.2.2.2.2.2.1 x.2.2.2.2.2.2.2.2.2.2.2.2.2.2.2.2.2.1 x.2.2.2.2.2.2.2.2.2.2.2.2.2.2.2.2.2.2.1 x.2.2.2.2.2.2.2.2.2.2.2.2.2.2.2.2.2.2.2.1 x.2.2.2.2.2.2.2.2.2.2.2.2.2.2.2.2.2.2.2.2) fun x=>a2W x.1 x.2.1 x.2.2.1 x.2.2.2.1 x.2.2.2.2.1 x.2.2.2.2.2.1 x.2.2.2.2.2.2.1 x.2.2.2.2.2.2.2.1 x.2.2.2.2.2.2.2.2.1 x.2.2.2.2.2.2.2.2.2.1 x.2.2.2.2.2.2.2.2.2.2.1 x.2.2.2.2.2.2.2.2.2.2.2.1 x.2.2.2.2.2.2.2.2.2.2.2.2.1 x.2.2.2.2.2.2.2.2.2.2.2.2.2.1 x.2.2.2.2.2.2.2.2.2.2.2.2.2.2.1 x.2.2.2.2.2.2.2.2.2.2.2.2.2.2.2.1 x.2.2.2.2.2.2.2.2.2.2.2.2.2.2.2.2.1 x.2.2.2.2.2.2.2.2.2.2.2.2.2.2.2.2.2.1 x.2.2.2.2.2.2.2.2.2.2.2.2.2.2.2.2.2.2.1 x.2.2.2.2.2.2.2.2.2.2.2.2.2.2.2.2.2.2.2.1 x.2.2.2.2.2.2.2.2.2.2.2.2.2.2.2.2.2.2.2.2
@[go_sem] theorem aMu:aBd (no_index a2U) (no_index (a2V O Z aA aB aC aD aE aF aG aH aI aJ aK aL aM aN aO aP aQ aR aS))=some (a2W O Z aA aB aC aD aE aF aG aH aI aJ aK aL aM aN aO aP aQ aR aS):=pN (fun⟨a0,a1,a2,a3,a4,a5,a6,a7,a8,a9,a10,a11,a12,a13,a14,a15,a16,a17,a18,a19,a20⟩ ⟨b0,b1,b2,b3,b4,b5,b6,b7,b8,b9,b10,b11,b12,b13,b14,qI,b16,b17,b18,b19,b20⟩ h1 h2=>by cases h1;cases h2;rfl) (O,Z,aA,aB,aC,aD,aE,aF,aG,aH,aI,aJ,aK,aL,aM,aN,aO,aP,aQ,aR,aS)
end
@[reducible,go_sem] def a2X:Nat×Sig:=(151,⟨[.p q8 [11,13],.p r8 [3,6]],aBd,[(0,12,.m),(3,4,.r),(3,8,.m)],[1,2,4,5,6,7],none⟩)
theorem aBe:Env Tryz.prog [] (pE [GK,OZ,a2u,OX]):=⟨trivial,p5 a2h (p5 a8T (p5 aGY (p5 a8B pP))),pH⟩
theorem a2Y:Env Tryz.prog [s5,AM,yV] (pE [GK,OZ,a2u,OX]):=⟨⟨sG,⟨CQ,⟨AK,trivial⟩⟩⟩,aBe.Γ,pH⟩
theorem aG4:pI Tryz.prog a2X:=by
 refine pO aBe Tryz.func151 (c:=_) rfl (N:=18) (by kernel_rfl) (ts:=[]) rfl (fun _ _=>rfl) ?_
 intro⟨O,Z,aA,aB,aC,aD,aE,aF,aG,aH,aI,aJ,aK,aL,aM,aN,aO,aP,aQ,aR,aS⟩ hs hrow
 dsimp only[a2U,a2V,a2W,pJ,enumH,pD,pG,pL,Nat.reduceAdd] at hs hrow⊢
 obtain⟨rfl,rfl,rfl,rfl,rfl,hz⟩:=hs
 obtain⟨rfl,_⟩:=hrow
 obtain⟨z0,hC0⟩:=Option.isSome_iff_exists.1 hz
 try rw[pW hC0]
 clear hz
 unfold xO at hC0
 obtain⟨aT,hv1,hw1,hC0⟩:=p8 hC0
 try simp only[go_sem] at hw1
 refine oS a2Y ?_ (hp:=by exact And.intro (by first|exact rfl|exact trivial) (And.intro (by first|exact rfl|exact trivial) (And.intro (by first|exact rfl|exact trivial) (And.intro (by first|exact rfl|exact trivial) (And.intro (by first|exact rfl|exact trivial) (And.intro (by first|exact rfl|exact trivial) (And.intro (by first|exact rfl|exact trivial) (And.intro (by first|exact rfl|exact trivial) (And.intro (by first|exact rfl|exact trivial) (And.intro (by first|exact rfl|exact trivial) (And.intro (by first|exact rfl|exact trivial) (And.intro (by first|exact rfl|exact trivial) ((p7 hv1)))))))))))))) (h:=by simp only[go_sem,hw1];rfl)
 refine oS a2Y ?_
 obtain⟨aU,hv2,hw2,hC0⟩:=p8 hC0
 try simp only[go_sem] at hw2
 obtain⟨aV,hv3,hw3,hC0⟩:=p8 hC0
 try simp only[go_sem] at hw3
 refine pF a2Y ?_ (hp:=by exact And.intro (by first|exact rfl|exact trivial) (And.intro (by first|exact rfl|exact trivial) (And.intro (by first|exact rfl|exact trivial) (And.intro (by first|exact rfl|exact trivial) (And.intro (by first|exact rfl|exact trivial) (And.intro (p7 hv2) ((p7 hv3)))))))) (h:=by simp only[go_sem,hw2,hw3];rfl)
 cases hC0
 exact⟨[(0,0),(1,1),(2,2),(3,3),(4,4),(5,5),(6,6),(7,7),(8,8)],by rfl,by rfl,by rfl⟩
attribute [irreducible] xO
end
end Go.Proofs.YtfchbnahjcdiiaaGreatDoor
namespace Go.Proofs.YtfchbnahjcdiiaaGreatDoor
open Vc
set_option maxRecDepth 100000
set_option maxHeartbeats 4000000
set_option linter.unusedSimpArgs false
set_option linter.unusedVariables false
noncomputable section
def wC (O:((List UInt8)×(Int×Unit))) (Z:qA) (aA:Int) (aB:Int) (aC:qB) (aD:((List Int)×(Int×Unit))) (aE:(List UInt8)) (aF:(List UInt8)) (aG:(List UInt8)) (aH:(List (List UInt8))) (aI:(Int×((List p9)×Unit))) (aJ:Bool) (aK:(List ((List UInt8)×Bool))) (aL:(List (List UInt8))) (aM:(List ((List UInt8)×Bool))):Option (Int×Int×(List UInt8)×Int×Int×Int×Int×Int×(List (List UInt8))):=
 (qP O Z aA aB aC aD aK).bind fun aN=>
 (x9 (O.1,(aN.1,())) (aN.2.1,(aN.2.2.1,(aN.2.2.2.1,(aN.2.2.2.2.1,())))) aA aB (aC.1,(aC.2.1,(aC.2.2.1,(aC.2.2.2.1,())))) (aD.1,(aN.2.2.2.2.2,())) (2:Int) (decide ((((List.length aL):Nat):Int)=(20:Int))) aK aE aF aG aH aI aJ aL aM).bind fun aO=>
 if ((List.length aL)+List.length ([aN.2.2.1]:List (List UInt8)))*16≤140737488355328 then
  some ((aO.1,aO.2.1,aO.2.2.1,aO.2.2.2.1,aO.2.2.2.2.1,aO.2.2.2.2.2.1,aO.2.2.2.2.2.2.1,aO.2.2.2.2.2.2.2,(aL++([aN.2.2.1]:List (List UInt8)))))
 else none
section
variable (O:((List UInt8)×(Int×Unit))) (Z:qA) (aA:Int) (aB:Int) (aC:qB) (aD:((List Int)×(Int×Unit))) (aE:Nat) (aF:Nat) (aG:(List UInt8)) (aH:(List UInt8)) (aI:(List UInt8)) (aJ:(List (List UInt8))) (aK:Nat) (aL:(Int×((List p9)×Unit))) (aM:Bool) (aN:Nat) (aO:Nat) (aP:(List ((List UInt8)×Bool))) (aQ:(List (List UInt8))) (aR:Nat) (aS:(List ((List UInt8)×Bool)))
@[reducible] def a2Z:List Slot:=[(.val .ref (some (0,0)),none),(.val .ref (some (3,0)),none)]
@[reducible] def a23:List Blk:=[.cells q8 (O,(Z,(aA,(aB,(aC,((some 6),aD)))))) [(11,1),(13,2)],.grow 52 7 aE,.grow 3 1 aF,.cells r8 ((aG,(aH,(aI,(aJ,((some (7,aK)),aL))))),(aM,((some 8),()))) [(3,4),(6,5)],.grow 9 1 aN,.grow 144 2 aO,.map .str .bool aP,.row 9 .str aQ aR,.map .str .bool aS]
@[go_sem] def a25:Ret:=⟨[aE=(List.length aC.2.2.2.1),aF=(List.length aD.1),aN=(List.length aJ),aO=(List.length aL.2.1),aK=aR,((wC O Z aA aB aC aD aG aH aI aJ aL aM aP aQ aS)).isSome=true],[],[.cells q8 ((O.1,((val (wC O Z aA aB aC aD aG aH aI aJ aL aM aP aQ aS)).1,())),(((val (wC O Z aA aB aC aD aG aH aI aJ aL aM aP aQ aS)).2.1,((val (wC O Z aA aB aC aD aG aH aI aJ aL aM aP aQ aS)).2.2.1,((val (wC O Z aA aB aC aD aG aH aI aJ aL aM aP aQ aS)).2.2.2.1,((val (wC O Z aA aB aC aD aG aH aI aJ aL aM aP aQ aS)).2.2.2.2.1,())))),((val (wC O Z aA aB aC aD aG aH aI aJ aL aM aP aQ aS)).2.2.2.2.2.1,((val (wC O Z aA aB aC aD aG aH aI aJ aL aM aP aQ aS)).2.2.2.2.2.2.1,((aC.1,(aC.2.1,(aC.2.2.1,(aC.2.2.2.1,())))),((some 6),(aD.1,((val (wC O Z aA aB aC aD aG aH aI aJ aL aM aP aQ aS)).2.2.2.2.2.2.2.1,())))))))) [(11,1),(13,2)],.grow 52 7 (List.length aC.2.2.2.1),.grow 3 1 (List.length aD.1),.cells r8 ((aG,(aH,(aI,(aJ,((some (7,(List.length ((val (wC O Z aA aB aC aD aG aH aI aJ aL aM aP aQ aS)).2.2.2.2.2.2.2.2)))),(aL.1,(aL.2.1,()))))))),(aM,((some 8),()))) [(3,4),(6,5)],.grow 9 1 (List.length aJ),.grow 144 2 (List.length aL.2.1),.map .str .bool aP,.row 9 .str ((val (wC O Z aA aB aC aD aG aH aI aJ aL aM aP aQ aS)).2.2.2.2.2.2.2.2) (List.length ((val (wC O Z aA aB aC aD aG aH aI aJ aL aM aP aQ aS)).2.2.2.2.2.2.2.2)),.map .str .bool aS]⟩
def aBf:List Slot→List Blk→Option Ret:=pM (V:=(((List UInt8)×(Int×Unit))×qA×Int×Int×qB×((List Int)×(Int×Unit))×Nat×Nat×(List UInt8)×(List UInt8)×(List UInt8)×(List (List UInt8))×Nat×(Int×((List p9)×Unit))×Bool×Nat×Nat×(List ((List UInt8)×Bool))×(List (List UInt8))×Nat×(List ((List UInt8)×Bool)))) (fun x=>a2Z) (fun x=>a23 x.1 x.2.1 x.2.2.1 x.2.2.2.1 x.2.2.2.2.1 x.2.2.2.2.2.1 x.2.2.2.2.2.2.1 x.2.2.2.2.2.2.2.1 x.2.2.2.2.2.2.2.2.1 x.2.2.2.2.2.2.2.2.2.1 x.2.2.2.2.2.2.2.2.2.2.1 x.2.2.2.2.2.2.2.2.2.2.2.1 x.2.2.2.2.2.2.2.2.2.2.2.2.1 x.2.2.2.2.2.2.2.2.2.2.2.2.2.1 x.2.2.2.2.2.2.2.2.2.2.2.2.2.2.1 x.2.2.2.2.2.2.2.2.2.2.2.2.2.2.2.1 x.2.2.2.2.2.2.2.2.2.2.2.2.2.2.2.2.1 x.2.2.2.2.2.2.2.2.2.2.2.2.2.2.2.2.2.1 x.2.2.2.2.2.2.2.2.2.2.2.2.2.2.2.2.2.2.1 x.2.2.2.2.2.2.2.2.2.2.2.2.2.2.2.2.2.2.2.1 x.2.2.2.2.2.2.2.2.2.2.2.2.2.2.2.2.2.2.2.2) fun x=>a25 x.1 x.2.1 x.2.2.1 x.2.2.2.1 x.2.2.2.2.1 x.2.2.2.2.2.1 x.2.2.2.2.2.2.1 x.2.2.2.2.2.2.2.1 x.2.2.2.2.2.2.2.2.1 x.2.2.2.2.2.2.2.2.2.1 x.2.2.2.2.2.2.2.2.2.2.1 x.2.2.2.2.2.2.2.2.2.2.2.1 x.2.2.2.2.2.2.2.2.2.2.2.2.1 x.2.2.2.2.2.2.2.2.2.2.2.2.2.1 x.2.2.2.2.2.2.2.2.2.2.2.2.2.2.1 x.2.2.2.2.2.2.2.2.2.2.2.2.2.2.2.1 x.2.2.2.2.2.2.2.2.2.2.2.2.2.2.2.2.1 x.2.2.2.2.2.2.2.2.2.2.2.2.2.2.2.2.2.1 x.2.2.2.2.2.2.2.2.2.2.2.2.2.2.2.2.2.2.1 x.2.2.2.2.2.2.2.2.2.2.2.2.2.2.2.2.2.2.2.1 x.2.2.2.2.2.2.2.2.2.2.2.2.2.2.2.2.2.2.2.2
@[go_sem] theorem aMv:aBf (no_index a2Z) (no_index (a23 O Z aA aB aC aD aE aF aG aH aI aJ aK aL aM aN aO aP aQ aR aS))=some (a25 O Z aA aB aC aD aE aF aG aH aI aJ aK aL aM aN aO aP aQ aR aS):=pN (fun⟨a0,a1,a2,a3,a4,a5,a6,a7,a8,a9,a10,a11,a12,a13,a14,a15,a16,a17,a18,a19,a20⟩ ⟨b0,b1,b2,b3,b4,b5,b6,b7,b8,b9,b10,b11,b12,b13,b14,qI,b16,b17,b18,b19,b20⟩ h1 h2=>by cases h1;cases h2;rfl) (O,Z,aA,aB,aC,aD,aE,aF,aG,aH,aI,aJ,aK,aL,aM,aN,aO,aP,aQ,aR,aS)
end
@[reducible,go_sem] def a26:Nat×Sig:=(152,⟨[.p q8 [11,13],.p r8 [3,6]],aBf,[(0,12,.m),(3,4,.r),(3,8,.m)],[1,2,4,5,6,8],none⟩)
theorem aBg:Env Tryz.prog [] (pE [vK,a2N]):=⟨trivial,p5 AR (p5 aG1 pP),pH⟩
theorem P8:Env Tryz.prog [uK,AM,HT,yV] (pE [vK,a2N]):=⟨⟨vG,⟨CQ,⟨OR,⟨AK,trivial⟩⟩⟩⟩,aBg.Γ,pH⟩
theorem aG5:pI Tryz.prog a26:=by
 refine pO aBg Tryz.func152 (c:=_) rfl (N:=29) (by kernel_rfl) (ts:=[]) rfl (fun _ _=>rfl) ?_
 intro⟨O,Z,aA,aB,aC,aD,aE,aF,aG,aH,aI,aJ,aK,aL,aM,aN,aO,aP,aQ,aR,aS⟩ hs hrow
 dsimp only[a2Z,a23,a25,pJ,enumH,pD,pG,pL,Nat.reduceAdd] at hs hrow⊢
 obtain⟨rfl,rfl,rfl,rfl,rfl,hz⟩:=hs
 obtain⟨rfl,_⟩:=hrow
 obtain⟨z0,hC0⟩:=Option.isSome_iff_exists.1 hz
 try rw[pW hC0]
 clear hz
 unfold wC at hC0
 refine oS P8 ?_
 obtain⟨aT,hv1,hw1,hC0⟩:=p8 hC0
 try simp only[go_sem] at hw1
 refine oS P8 ?_ (hp:=by exact And.intro (by first|exact rfl|exact trivial) (And.intro (by first|exact rfl|exact trivial) (And.intro (by first|exact rfl|exact trivial) (And.intro (by first|exact rfl|exact trivial) (And.intro (by first|exact rfl|exact trivial) ((p7 hv1))))))) (h:=by simp only[go_sem,hw1];rfl)
 refine oS P8 ?_
 obtain⟨aU,hv2,hw2,hC0⟩:=p8 hC0
 try simp only[go_sem] at hw2
 obtain⟨hg3,hC0⟩:=oU hC0
 refine E1 P8 ?_ (hp:=by exact And.intro (by first|exact rfl|exact trivial) (And.intro (by first|exact rfl|exact trivial) (And.intro (by first|exact rfl|exact trivial) (And.intro (by first|exact rfl|exact trivial) (And.intro (by first|exact rfl|exact trivial) (And.intro (by first|exact rfl|exact trivial) (And.intro (by first|exact rfl|exact trivial) (And.intro (by first|exact rfl|exact trivial) (And.intro (by first|exact rfl|exact trivial) (And.intro (by first|exact rfl|exact trivial) (And.intro (by first|exact rfl|exact trivial) (And.intro (by first|exact rfl|exact trivial) (And.intro (by first|exact rfl|exact trivial) (And.intro (by first|exact rfl|exact trivial) (And.intro (p7 hv2) (And.intro (by first|exact rfl|exact trivial) (hg3))))))))))))))))) (h:=by simp only[go_sem,hw2];rfl)
 cases hC0
 exact⟨[(0,0),(1,1),(2,2),(3,3),(4,4),(5,5),(6,6),(7,7),(8,8)],by rfl,by rfl,by rfl⟩
attribute [irreducible] wC
def vM (O:((List UInt8)×(Int×Unit))) (Z:qA) (aA:Int) (aB:Int) (aC:qB) (aD:((List Int)×(Int×Unit))) (aE:(List UInt8)) (aF:(List UInt8)) (aG:(List UInt8)) (aH:(List (List UInt8))) (aI:(Int×((List p9)×Unit))) (aJ:Bool) (aK:(List ((List UInt8)×Bool))) (aL:(List (List UInt8))) (aM:(List ((List UInt8)×Bool))):Option (Int×Int×(List UInt8)×Int×Int×Int×Int×Int×(List (List UInt8))):=
 qD (σ:=(Int×Int)) (
   if (decide ((List.length aH:Int)=(20:Int)))=true then
    q6 (s7 O Z aA aB aC aD (6:Int) aK) fun aN=>
    some ((aN.1,aN.2))
   else
    some ((aA,aB))
  ) fun(aO,aP)=>
 (qP (O.1,(O.2.1,())) (Z.1,(Z.2.1,(Z.2.2.1,(Z.2.2.2.1,())))) aO aP (aC.1,(aC.2.1,(aC.2.2.1,(aC.2.2.2.1,())))) (aD.1,(aD.2.1,())) aK).bind fun aQ=>
 (uZ (O.1,(aQ.1,())) (aQ.2.1,(aQ.2.2.1,(aQ.2.2.2.1,(aQ.2.2.2.2.1,())))) aO aP (aC.1,(aC.2.1,(aC.2.2.1,(aC.2.2.2.1,())))) (aD.1,(aQ.2.2.2.2.2,())) aK).bind fun aR=>
 if (List.length aH+List.length ([aQ.2.2.1]:List (List UInt8)))*16≤140737488355328 then
  some ((aR.1,aR.2.1,aR.2.2.1,aR.2.2.2.1,aR.2.2.2.2.1,aR.2.2.2.2.2.1,aR.2.2.2.2.2.2.1,aR.2.2.2.2.2.2.2,(aH++([aQ.2.2.1]:List (List UInt8)))))
 else none
section
variable (O:((List UInt8)×(Int×Unit))) (Z:qA) (aA:Int) (aB:Int) (aC:qB) (aD:((List Int)×(Int×Unit))) (aE:Nat) (aF:Nat) (aG:(List UInt8)) (aH:(List UInt8)) (aI:(List UInt8)) (aJ:(List (List UInt8))) (aK:Nat) (aL:(Int×((List p9)×Unit))) (aM:Bool) (aN:Nat) (aO:Nat) (aP:(List ((List UInt8)×Bool))) (aQ:(List (List UInt8))) (aR:Nat) (aS:(List ((List UInt8)×Bool)))
@[reducible] def a27:List Slot:=[(.val .ref (some (0,0)),none),(.val .ref (some (3,0)),none)]
@[reducible] def a28:List Blk:=[.cells q8 (O,(Z,(aA,(aB,(aC,((some 6),aD)))))) [(11,1),(13,2)],.grow 52 7 aE,.grow 3 1 aF,.cells r8 ((aG,(aH,(aI,(aJ,((some (7,aK)),aL))))),(aM,((some 8),()))) [(3,4),(6,5)],.grow 9 1 aN,.grow 144 2 aO,.map .str .bool aP,.row 9 .str aQ aR,.map .str .bool aS]
@[go_sem] def a29:Ret:=⟨[aE=(List.length aC.2.2.2.1),aF=(List.length aD.1),aN=(List.length aJ),aO=(List.length aL.2.1),aK=aR,((vM O Z aA aB aC aD aG aH aI aJ aL aM aP aQ aS)).isSome=true],[],[.cells q8 ((O.1,((val (vM O Z aA aB aC aD aG aH aI aJ aL aM aP aQ aS)).1,())),(((val (vM O Z aA aB aC aD aG aH aI aJ aL aM aP aQ aS)).2.1,((val (vM O Z aA aB aC aD aG aH aI aJ aL aM aP aQ aS)).2.2.1,((val (vM O Z aA aB aC aD aG aH aI aJ aL aM aP aQ aS)).2.2.2.1,((val (vM O Z aA aB aC aD aG aH aI aJ aL aM aP aQ aS)).2.2.2.2.1,())))),((val (vM O Z aA aB aC aD aG aH aI aJ aL aM aP aQ aS)).2.2.2.2.2.1,((val (vM O Z aA aB aC aD aG aH aI aJ aL aM aP aQ aS)).2.2.2.2.2.2.1,((aC.1,(aC.2.1,(aC.2.2.1,(aC.2.2.2.1,())))),((some 6),(aD.1,((val (vM O Z aA aB aC aD aG aH aI aJ aL aM aP aQ aS)).2.2.2.2.2.2.2.1,())))))))) [(11,1),(13,2)],.grow 52 7 (List.length aC.2.2.2.1),.grow 3 1 (List.length aD.1),.cells r8 ((aG,(aH,(aI,((val (vM O Z aA aB aC aD aG aH aI aJ aL aM aP aQ aS)).2.2.2.2.2.2.2.2,((some (7,(List.length aQ))),(aL.1,(aL.2.1,()))))))),(aM,((some 8),()))) [(3,4),(6,5)],.grow 9 1 (List.length ((val (vM O Z aA aB aC aD aG aH aI aJ aL aM aP aQ aS)).2.2.2.2.2.2.2.2)),.grow 144 2 (List.length aL.2.1),.map .str .bool aP,.row 9 .str aQ (List.length aQ),.map .str .bool aS]⟩
def aBh:List Slot→List Blk→Option Ret:=pM (V:=(((List UInt8)×(Int×Unit))×qA×Int×Int×qB×((List Int)×(Int×Unit))×Nat×Nat×(List UInt8)×(List UInt8)×(List UInt8)×(List (List UInt8))×Nat×(Int×((List p9)×Unit))×Bool×Nat×Nat×(List ((List UInt8)×Bool))×(List (List UInt8))×Nat×(List ((List UInt8)×Bool)))) (fun x=>a27) (fun x=>a28 x.1 x.2.1 x.2.2.1 x.2.2.2.1 x.2.2.2.2.1 x.2.2.2.2.2.1 x.2.2.2.2.2.2.1 x.2.2.2.2.2.2.2.1 x.2.2.2.2.2.2.2.2.1 x.2.2.2.2.2.2.2.2.2.1 x.2.2.2.2.2.2.2.2.2.2.1 x.2.2.2.2.2.2.2.2.2.2.2.1 x.2.2.2.2.2.2.2.2.2.2.2.2.1 x.2.2.2.2.2.2.2.2.2.2.2.2.2.1 x.2.2.2.2.2.2.2.2.2.2.2.2.2.2.1 x.2.2.2.2.2.2.2.2.2.2.2.2.2.2.2.1 x.2.2.2.2.2.2.2.2.2.2.2.2.2.2.2.2.1 x.2.2.2.2.2.2.2.2.2.2.2.2.2.2.2.2.2.1 x.2.2.2.2.2.2.2.2.2.2.2.2.2.2.2.2.2.2.1 x.2.2.2.2.2.2.2.2.2.2.2.2.2.2.2.2.2.2.2.1 x.2.2.2.2.2.2.2.2.2.2.2.2.2.2.2.2.2.2.2.2) fun x=>a29 x.1 x.2.1 x.2.2.1 x.2.2.2.1 x.2.2.2.2.1 x.2.2.2.2.2.1 x.2.2.2.2.2.2.1 x.2.2.2.2.2.2.2.1 x.2.2.2.2.2.2.2.2.1 x.2.2.2.2.2.2.2.2.2.1 x.2.2.2.2.2.2.2.2.2.2.1 x.2.2.2.2.2.2.2.2.2.2.2.1 x.2.2.2.2.2.2.2.2.2.2.2.2.1 x.2.2.2.2.2.2.2.2.2.2.2.2.2.1 x.2.2.2.2.2.2.2.2.2.2.2.2.2.2.1 x.2.2.2.2.2.2.2.2.2.2.2.2.2.2.2.1 x.2.2.2.2.2.2.2.2.2.2.2.2.2.2.2.2.1 x.2.2.2.2.2.2.2.2.2.2.2.2.2.2.2.2.2.1 x.2.2.2.2.2.2.2.2.2.2.2.2.2.2.2.2.2.2.1 x.2.2.2.2.2.2.2.2.2.2.2.2.2.2.2.2.2.2.2.1 x.2.2.2.2.2.2.2.2.2.2.2.2.2.2.2.2.2.2.2.2
@[go_sem] theorem aMw:aBh (no_index a27) (no_index (a28 O Z aA aB aC aD aE aF aG aH aI aJ aK aL aM aN aO aP aQ aR aS))=some (a29 O Z aA aB aC aD aE aF aG aH aI aJ aK aL aM aN aO aP aQ aR aS):=pN (fun⟨a0,a1,a2,a3,a4,a5,a6,a7,a8,a9,a10,a11,a12,a13,a14,a15,a16,a17,a18,a19,a20⟩ ⟨b0,b1,b2,b3,b4,b5,b6,b7,b8,b9,b10,b11,b12,b13,b14,qI,b16,b17,b18,b19,b20⟩ h1 h2=>by cases h1;cases h2;rfl) (O,Z,aA,aB,aC,aD,aE,aF,aG,aH,aI,aJ,aK,aL,aM,aN,aO,aP,aQ,aR,aS)
end
@[reducible,go_sem] def a3a:Nat×Sig:=(147,⟨[.p q8 [11,13],.p r8 [3,6]],aBh,[(0,12,.m),(3,4,.r),(3,8,.m)],[1,2,5,6,7,8],none⟩)
theorem aBi:Env Tryz.prog [] (pE [wT,vK,DC]):=⟨trivial,p5 BK (p5 AR (p5 P7 pP)),pH⟩
theorem P9:Env Tryz.prog [uK,AM,yV] (pE [wT,vK,DC]):=⟨⟨vG,⟨CQ,⟨AK,trivial⟩⟩⟩,aBi.Γ,pH⟩
theorem aG6:pI Tryz.prog a3a:=by
 refine pO aBi Tryz.func147 (c:=_) rfl (N:=28) (by kernel_rfl) (ts:=[]) rfl (fun _ _=>rfl) ?_
 intro⟨O,Z,aA,aB,aC,aD,aE,aF,aG,aH,aI,aJ,aK,aL,aM,aN,aO,aP,aQ,aR,aS⟩ hs hrow
 dsimp only[a27,a28,a29,pJ,enumH,pD,pG,pL,Nat.reduceAdd] at hs hrow⊢
 obtain⟨rfl,rfl,rfl,rfl,rfl,hz⟩:=hs
 obtain⟨rfl,_⟩:=hrow
 obtain⟨z0,hC0⟩:=Option.isSome_iff_exists.1 hz
 try rw[pW hC0]
 clear hz
 unfold vM at hC0
 refine p4 ?_
 refine oS P9 ?_
 obtain⟨y1,hC1,hC0⟩:=oY hC0
 refine y8 (fun s=>s=(fun x=>⟨[(0,(.val .ref (some (0,0)),none)),(1,(.val .ref (some (3,0)),none))],[(0,.cells q8 ((O.1,(O.2.1,())),((Z.1,(Z.2.1,(Z.2.2.1,(Z.2.2.2.1,())))),(x.1,(x.2,((aC.1,(aC.2.1,(aC.2.2.1,(aC.2.2.2.1,())))),((some 6),(aD.1,(aD.2.1,())))))))) [(11,1),(13,2)]),(1,.grow 52 7 (List.length aC.2.2.2.1)),(2,.grow 3 1 (List.length aD.1)),(3,.cells r8 ((aG,(aH,(aI,(aJ,((some (7,(List.length aQ))),(aL.1,(aL.2.1,()))))))),(aM,((some 8),()))) [(3,4),(6,5)]),(4,.grow 9 1 (List.length aJ)),(5,.grow 144 2 (List.length aL.2.1)),(6,.map .str .bool aP),(7,.row 9 .str aQ (List.length aQ)),(8,.map .str .bool aS)],9,28,9⟩) y1) ?_ ?_
 ·refine oX hC1 (fun hC1 hc1=> ?_) (fun hC1 hc1=> ?_)
  ·obtain⟨aT,hw_40,hC1⟩:=rI hC1
   try simp only[go_sem] at hw_40
   refine pF P9 ?_ (hp:=by exact And.intro (by first|exact rfl|exact trivial) (And.intro (by first|exact rfl|exact trivial) (And.intro (by first|exact rfl|exact trivial) (And.intro (by first|exact rfl|exact trivial) ((by first|exact rfl|exact trivial)))))) (h:=by simp only[go_sem,hw_40];rfl)
   cases hC1
   exact rK ⟨⟨[0,1],[(0,0),(1,1),(2,2),(3,3),(4,4),(5,5),(6,6),(7,7),(8,8)]⟩,by rfl⟩
  ·refine p6 ?_
   cases hC1
   exact rK ⟨⟨[0,1],[(0,0),(1,1),(2,2),(3,3),(4,4),(5,5),(6,6),(7,7),(8,8)]⟩,by rfl⟩
 ·rintro _ rfl
  obtain⟨aU,aV⟩:=y1
  dsimp only at hC0⊢
  refine oW ?_
  obtain⟨aW,hv1,hw1,hC0⟩:=p8 hC0
  try simp only[go_sem] at hw1
  refine oS P9 ?_ (hp:=by exact And.intro (by first|exact rfl|exact trivial) (And.intro (by first|exact rfl|exact trivial) (And.intro (by first|exact rfl|exact trivial) (And.intro (by first|exact rfl|exact trivial) (And.intro (by first|exact rfl|exact trivial) ((p7 hv1))))))) (h:=by simp only[go_sem,hw1];rfl)
  obtain⟨aX,hv2,hw2,hC0⟩:=p8 hC0
  try simp only[go_sem] at hw2
  obtain⟨hg3,hC0⟩:=oU hC0
  refine E1 P9 ?_ (hp:=by exact And.intro (by first|exact rfl|exact trivial) (And.intro (by first|exact rfl|exact trivial) (And.intro (by first|exact rfl|exact trivial) (And.intro (by first|exact rfl|exact trivial) (And.intro (by first|exact rfl|exact trivial) (And.intro (p7 hv2) (And.intro (by first|exact rfl|exact trivial) (hg3)))))))) (h:=by simp only[go_sem,hw2];rfl)
  cases hC0
  exact⟨[(0,0),(1,1),(2,2),(3,3),(4,4),(5,5),(6,6),(7,7),(8,8)],by rfl,by rfl,by rfl⟩
attribute [irreducible] vM
end
end Go.Proofs.YtfchbnahjcdiiaaGreatDoor
namespace Go.Proofs.YtfchbnahjcdiiaaGreatDoor
open Vc
set_option maxRecDepth 100000
set_option maxHeartbeats 4000000
set_option linter.unusedSimpArgs false
set_option linter.unusedVariables false
noncomputable section
def xC (O:((List UInt8)×(Int×Unit))) (Z:qA) (aA:Int) (aB:Int) (aC:qB) (aD:((List Int)×(Int×Unit))) (aE:(List UInt8)) (aF:(List UInt8)) (aG:(List UInt8)) (aH:(List (List UInt8))) (aI:(Int×((List p9)×Unit))) (aJ:Bool) (aK:(List ((List UInt8)×Bool))) (aL:(List (List UInt8))) (aM:(List ((List UInt8)×Bool))):Option (Int×Int×(List UInt8)×Int×Int×Int×Int×Int×(List p9)):=
 (qP O Z aA aB aC aD aK).bind fun aN=>
 (wY (O.1,(aN.1,())) (aN.2.1,(aN.2.2.1,(aN.2.2.2.1,(aN.2.2.2.2.1,())))) aA aB (aC.1,(aC.2.1,(aC.2.2.1,(aC.2.2.2.1,())))) (aD.1,(aN.2.2.2.2.2,())) (1:Int) (decide ((List.length aI.2.1:Int)=(20:Int))) aK aE aF aG aH aI aJ aL aM).bind fun aO=>
 (uZ (O.1,(aO.1,())) (aO.2.1,(aO.2.2.1,(aO.2.2.2.1,(aO.2.2.2.2.1,())))) aO.2.2.2.2.2.1 aO.2.2.2.2.2.2.1 (aC.1,(aC.2.1,(aC.2.2.1,(aC.2.2.2.1,())))) (aD.1,(aO.2.2.2.2.2.2.2,())) aK).bind fun aP=>
 (EW aI.2.1 aN.2.2.1 aO.2.2.1).bind fun aQ=>
 some ((aP.1,aP.2.1,aP.2.2.1,aP.2.2.2.1,aP.2.2.2.2.1,aP.2.2.2.2.2.1,aP.2.2.2.2.2.2.1,aP.2.2.2.2.2.2.2,aQ))
section
variable (O:((List UInt8)×(Int×Unit))) (Z:qA) (aA:Int) (aB:Int) (aC:qB) (aD:((List Int)×(Int×Unit))) (aE:Nat) (aF:Nat) (aG:(List UInt8)) (aH:(List UInt8)) (aI:(List UInt8)) (aJ:(List (List UInt8))) (aK:Nat) (aL:(Int×((List p9)×Unit))) (aM:Bool) (aN:Nat) (aO:Nat) (aP:(List ((List UInt8)×Bool))) (aQ:(List (List UInt8))) (aR:Nat) (aS:(List ((List UInt8)×Bool)))
@[reducible] def a3e:List Slot:=[(.val .ref (some (0,0)),none),(.val .ref (some (3,0)),none)]
@[reducible] def a3f:List Blk:=[.cells q8 (O,(Z,(aA,(aB,(aC,((some 6),aD)))))) [(11,1),(13,2)],.grow 52 7 aE,.grow 3 1 aF,.cells r8 ((aG,(aH,(aI,(aJ,((some (7,aK)),aL))))),(aM,((some 8),()))) [(3,4),(6,5)],.grow 9 1 aN,.grow 144 2 aO,.map .str .bool aP,.row 9 .str aQ aR,.map .str .bool aS]
@[go_sem] def a3g:Ret:=⟨[aE=(List.length aC.2.2.2.1),aF=(List.length aD.1),aN=(List.length aJ),aO=(List.length aL.2.1),aK=aR,((xC O Z aA aB aC aD aG aH aI aJ aL aM aP aQ aS)).isSome=true],[],[.cells q8 ((O.1,((val (xC O Z aA aB aC aD aG aH aI aJ aL aM aP aQ aS)).1,())),(((val (xC O Z aA aB aC aD aG aH aI aJ aL aM aP aQ aS)).2.1,((val (xC O Z aA aB aC aD aG aH aI aJ aL aM aP aQ aS)).2.2.1,((val (xC O Z aA aB aC aD aG aH aI aJ aL aM aP aQ aS)).2.2.2.1,((val (xC O Z aA aB aC aD aG aH aI aJ aL aM aP aQ aS)).2.2.2.2.1,())))),((val (xC O Z aA aB aC aD aG aH aI aJ aL aM aP aQ aS)).2.2.2.2.2.1,((val (xC O Z aA aB aC aD aG aH aI aJ aL aM aP aQ aS)).2.2.2.2.2.2.1,((aC.1,(aC.2.1,(aC.2.2.1,(aC.2.2.2.1,())))),((some 6),(aD.1,((val (xC O Z aA aB aC aD aG aH aI aJ aL aM aP aQ aS)).2.2.2.2.2.2.2.1,())))))))) [(11,1),(13,2)],.grow 52 7 (List.length aC.2.2.2.1),.grow 3 1 (List.length aD.1),.cells r8 ((aG,(aH,(aI,(aJ,((some (7,(List.length aQ))),(aL.1,((val (xC O Z aA aB aC aD aG aH aI aJ aL aM aP aQ aS)).2.2.2.2.2.2.2.2,()))))))),(aM,((some 8),()))) [(3,4),(6,9)],.grow 9 1 (List.length aJ),.grow 144 2 (List.length aL.2.1),.map .str .bool aP,.row 9 .str aQ (List.length aQ),.map .str .bool aS,.grow 144 2 (List.length ((val (xC O Z aA aB aC aD aG aH aI aJ aL aM aP aQ aS)).2.2.2.2.2.2.2.2))]⟩
def aBl:List Slot→List Blk→Option Ret:=pM (V:=(((List UInt8)×(Int×Unit))×qA×Int×Int×qB×((List Int)×(Int×Unit))×Nat×Nat×(List UInt8)×(List UInt8)×(List UInt8)×(List (List UInt8))×Nat×(Int×((List p9)×Unit))×Bool×Nat×Nat×(List ((List UInt8)×Bool))×(List (List UInt8))×Nat×(List ((List UInt8)×Bool)))) (fun x=>a3e) (fun x=>a3f x.1 x.2.1 x.2.2.1 x.2.2.2.1 x.2.2.2.2.1 x.2.2.2.2.2.1 x.2.2.2.2.2.2.1 x.2.2.2.2.2.2.2.1 x.2.2.2.2.2.2.2.2.1 x.2.2.2.2.2.2.2.2.2.1 x.2.2.2.2.2.2.2.2.2.2.1 x.2.2.2.2.2.2.2.2.2.2.2.1 x.2.2.2.2.2.2.2.2.2.2.2.2.1 x.2.2.2.2.2.2.2.2.2.2.2.2.2.1 x.2.2.2.2.2.2.2.2.2.2.2.2.2.2.1 x.2.2.2.2.2.2.2.2.2.2.2.2.2.2.2.1 x.2.2.2.2.2.2.2.2.2.2.2.2.2.2.2.2.1 x.2.2.2.2.2.2.2.2.2.2.2.2.2.2.2.2.2.1 x.2.2.2.2.2.2.2.2.2.2.2.2.2.2.2.2.2.2.1 x.2.2.2.2.2.2.2.2.2.2.2.2.2.2.2.2.2.2.2.1 x.2.2.2.2.2.2.2.2.2.2.2.2.2.2.2.2.2.2.2.2) fun x=>a3g x.1 x.2.1 x.2.2.1 x.2.2.2.1 x.2.2.2.2.1 x.2.2.2.2.2.1 x.2.2.2.2.2.2.1 x.2.2.2.2.2.2.2.1 x.2.2.2.2.2.2.2.2.1 x.2.2.2.2.2.2.2.2.2.1 x.2.2.2.2.2.2.2.2.2.2.1 x.2.2.2.2.2.2.2.2.2.2.2.1 x.2.2.2.2.2.2.2.2.2.2.2.2.1 x.2.2.2.2.2.2.2.2.2.2.2.2.2.1 x.2.2.2.2.2.2.2.2.2.2.2.2.2.2.1 x.2.2.2.2.2.2.2.2.2.2.2.2.2.2.2.1 x.2.2.2.2.2.2.2.2.2.2.2.2.2.2.2.2.1 x.2.2.2.2.2.2.2.2.2.2.2.2.2.2.2.2.2.1 x.2.2.2.2.2.2.2.2.2.2.2.2.2.2.2.2.2.2.1 x.2.2.2.2.2.2.2.2.2.2.2.2.2.2.2.2.2.2.2.1 x.2.2.2.2.2.2.2.2.2.2.2.2.2.2.2.2.2.2.2.2
@[go_sem] theorem aMy:aBl (no_index a3e) (no_index (a3f O Z aA aB aC aD aE aF aG aH aI aJ aK aL aM aN aO aP aQ aR aS))=some (a3g O Z aA aB aC aD aE aF aG aH aI aJ aK aL aM aN aO aP aQ aR aS):=pN (fun⟨a0,a1,a2,a3,a4,a5,a6,a7,a8,a9,a10,a11,a12,a13,a14,a15,a16,a17,a18,a19,a20⟩ ⟨b0,b1,b2,b3,b4,b5,b6,b7,b8,b9,b10,b11,b12,b13,b14,qI,b16,b17,b18,b19,b20⟩ h1 h2=>by cases h1;cases h2;rfl) (O,Z,aA,aB,aC,aD,aE,aF,aG,aH,aI,aJ,aK,aL,aM,aN,aO,aP,aQ,aR,aS)
end
@[reducible,go_sem] def a3h:Nat×Sig:=(148,⟨[.p q8 [11,13],.p r8 [3,6]],aBl,[(0,12,.m),(3,4,.r),(3,8,.m)],[1,2,4,5,6,7,8],none⟩)
theorem aBm:Env Tryz.prog [] (pE [vK,a2F,DC,a0R]):=⟨trivial,p5 AR (p5 aG0 (p5 P7 (p5 aGE pP))),pH⟩
theorem LN:Env Tryz.prog [AJ,AM,HT,yV] (pE [vK,a2F,DC,a0R]):=⟨⟨CO,⟨CQ,⟨OR,⟨AK,trivial⟩⟩⟩⟩,aBm.Γ,pH⟩
theorem aG8:pI Tryz.prog a3h:=by
 refine pO aBm Tryz.func148 (c:=_) rfl (N:=32) (by kernel_rfl) (ts:=[]) rfl (fun _ _=>rfl) ?_
 intro⟨O,Z,aA,aB,aC,aD,aE,aF,aG,aH,aI,aJ,aK,aL,aM,aN,aO,aP,aQ,aR,aS⟩ hs hrow
 dsimp only[a3e,a3f,a3g,pJ,enumH,pD,pG,pL,Nat.reduceAdd] at hs hrow⊢
 obtain⟨rfl,rfl,rfl,rfl,rfl,hz⟩:=hs
 obtain⟨rfl,_⟩:=hrow
 obtain⟨z0,hC0⟩:=Option.isSome_iff_exists.1 hz
 try rw[pW hC0]
 clear hz
 unfold xC at hC0
 refine oS LN ?_
 obtain⟨aT,hv1,hw1,hC0⟩:=p8 hC0
 try simp only[go_sem] at hw1
 refine oS LN ?_ (hp:=by exact And.intro (by first|exact rfl|exact trivial) (And.intro (by first|exact rfl|exact trivial) (And.intro (by first|exact rfl|exact trivial) (And.intro (by first|exact rfl|exact trivial) (And.intro (by first|exact rfl|exact trivial) ((p7 hv1))))))) (h:=by simp only[go_sem,hw1];rfl)
 refine oS LN ?_
 obtain⟨aU,hv2,hw2,hC0⟩:=p8 hC0
 try simp only[go_sem] at hw2
 refine oS LN ?_ (hp:=by exact And.intro (by first|exact rfl|exact trivial) (And.intro (by first|exact rfl|exact trivial) (And.intro (by first|exact rfl|exact trivial) (And.intro (by first|exact rfl|exact trivial) (And.intro (by first|exact rfl|exact trivial) (And.intro (by first|exact rfl|exact trivial) (And.intro (by first|exact rfl|exact trivial) (And.intro (by first|exact rfl|exact trivial) (And.intro (by first|exact rfl|exact trivial) (And.intro (by first|exact rfl|exact trivial) (And.intro (by first|exact rfl|exact trivial) (And.intro (by first|exact rfl|exact trivial) (And.intro (by first|exact rfl|exact trivial) (And.intro (by first|exact rfl|exact trivial) ((p7 hv2)))))))))))))))) (h:=by simp only[go_sem,hw2];rfl)
 obtain⟨aV,hv3,hw3,hC0⟩:=p8 hC0
 try simp only[go_sem] at hw3
 obtain⟨aW,hv4,hw4,hC0⟩:=p8 hC0
 try simp only[go_sem] at hw4
 refine E1 LN ?_ (hp:=by exact And.intro (by first|exact rfl|exact trivial) (And.intro (by first|exact rfl|exact trivial) (And.intro (by first|exact rfl|exact trivial) (And.intro (by first|exact rfl|exact trivial) (And.intro (by first|exact rfl|exact trivial) (And.intro (p7 hv3) ((p7 hv4)))))))) (h:=by simp only[go_sem,hw3,hw4];rfl)
 cases hC0
 exact⟨[(0,0),(1,1),(2,2),(3,3),(4,4),(5,5),(6,6),(7,7),(8,8),(9,409)],by rfl,by rfl,by rfl⟩
attribute [irreducible] xC
def xP (O:((List UInt8)×(Int×Unit))) (Z:qA) (aA:Int) (aB:Int) (aC:qB) (aD:((List Int)×(Int×Unit))) (aE:(List UInt8)) (aF:(List UInt8)) (aG:(List UInt8)) (aH:(List (List UInt8))) (aI:(Int×((List p9)×Unit))) (aJ:Bool) (aK:(List ((List UInt8)×Bool))) (aL:(List (List UInt8))) (aM:(List ((List UInt8)×Bool))):Option (Int×Int×(List UInt8)×Int×Int×Int×Int×Int×(List UInt8)):=
 (vL O Z aA aB aC aD aE aF aG aH aI aJ aK aL aM).bind fun aN=>
 (uZ (O.1,(aN.1,())) (aN.2.1,(aN.2.2.1,(aN.2.2.2.1,(aN.2.2.2.2.1,())))) aN.2.2.2.2.2.1 aN.2.2.2.2.2.2.1 (aC.1,(aC.2.1,(aC.2.2.1,(aC.2.2.2.1,())))) (aD.1,(aN.2.2.2.2.2.2.2,())) aK).bind fun aO=>
 some ((aO.1,aO.2.1,aO.2.2.1,aO.2.2.2.1,aO.2.2.2.2.1,aO.2.2.2.2.2.1,aO.2.2.2.2.2.2.1,aO.2.2.2.2.2.2.2,aN.2.2.1))
section
variable (O:((List UInt8)×(Int×Unit))) (Z:qA) (aA:Int) (aB:Int) (aC:qB) (aD:((List Int)×(Int×Unit))) (aE:Nat) (aF:Nat) (aG:(List UInt8)) (aH:(List UInt8)) (aI:(List UInt8)) (aJ:(List (List UInt8))) (aK:Nat) (aL:(Int×((List p9)×Unit))) (aM:Bool) (aN:Nat) (aO:Nat) (aP:(List ((List UInt8)×Bool))) (aQ:(List (List UInt8))) (aR:Nat) (aS:(List ((List UInt8)×Bool)))
@[reducible] def a3i:List Slot:=[(.val .ref (some (0,0)),none),(.val .ref (some (3,0)),none)]
@[reducible] def a3j:List Blk:=[.cells q8 (O,(Z,(aA,(aB,(aC,((some 6),aD)))))) [(11,1),(13,2)],.grow 52 7 aE,.grow 3 1 aF,.cells r8 ((aG,(aH,(aI,(aJ,((some (7,aK)),aL))))),(aM,((some 8),()))) [(3,4),(6,5)],.grow 9 1 aN,.grow 144 2 aO,.map .str .bool aP,.row 9 .str aQ aR,.map .str .bool aS]
@[go_sem] def a3k:Ret:=⟨[aE=(List.length aC.2.2.2.1),aF=(List.length aD.1),aN=(List.length aJ),aO=(List.length aL.2.1),aK=aR,((xP O Z aA aB aC aD aG aH aI aJ aL aM aP aQ aS)).isSome=true],[],[.cells q8 ((O.1,((val (xP O Z aA aB aC aD aG aH aI aJ aL aM aP aQ aS)).1,())),(((val (xP O Z aA aB aC aD aG aH aI aJ aL aM aP aQ aS)).2.1,((val (xP O Z aA aB aC aD aG aH aI aJ aL aM aP aQ aS)).2.2.1,((val (xP O Z aA aB aC aD aG aH aI aJ aL aM aP aQ aS)).2.2.2.1,((val (xP O Z aA aB aC aD aG aH aI aJ aL aM aP aQ aS)).2.2.2.2.1,())))),((val (xP O Z aA aB aC aD aG aH aI aJ aL aM aP aQ aS)).2.2.2.2.2.1,((val (xP O Z aA aB aC aD aG aH aI aJ aL aM aP aQ aS)).2.2.2.2.2.2.1,((aC.1,(aC.2.1,(aC.2.2.1,(aC.2.2.2.1,())))),((some 6),(aD.1,((val (xP O Z aA aB aC aD aG aH aI aJ aL aM aP aQ aS)).2.2.2.2.2.2.2.1,())))))))) [(11,1),(13,2)],.grow 52 7 (List.length aC.2.2.2.1),.grow 3 1 (List.length aD.1),.cells r8 ((aG,((val (xP O Z aA aB aC aD aG aH aI aJ aL aM aP aQ aS)).2.2.2.2.2.2.2.2,(aI,(aJ,((some (7,(List.length aQ))),(aL.1,(aL.2.1,()))))))),(aM,((some 8),()))) [(3,4),(6,5)],.grow 9 1 (List.length aJ),.grow 144 2 (List.length aL.2.1),.map .str .bool aP,.row 9 .str aQ (List.length aQ),.map .str .bool (rB .str .bool Z.2.1 true aS)]⟩
def aBn:List Slot→List Blk→Option Ret:=pM (V:=(((List UInt8)×(Int×Unit))×qA×Int×Int×qB×((List Int)×(Int×Unit))×Nat×Nat×(List UInt8)×(List UInt8)×(List UInt8)×(List (List UInt8))×Nat×(Int×((List p9)×Unit))×Bool×Nat×Nat×(List ((List UInt8)×Bool))×(List (List UInt8))×Nat×(List ((List UInt8)×Bool)))) (fun x=>a3i) (fun x=>a3j x.1 x.2.1 x.2.2.1 x.2.2.2.1 x.2.2.2.2.1 x.2.2.2.2.2.1 x.2.2.2.2.2.2.1 x.2.2.2.2.2.2.2.1 x.2.2.2.2.2.2.2.2.1 x.2.2.2.2.2.2.2.2.2.1 x.2.2.2.2.2.2.2.2.2.2.1 x.2.2.2.2.2.2.2.2.2.2.2.1 x.2.2.2.2.2.2.2.2.2.2.2.2.1 x.2.2.2.2.2.2.2.2.2.2.2.2.2.1 x.2.2.2.2.2.2.2.2.2.2.2.2.2.2.1 x.2.2.2.2.2.2.2.2.2.2.2.2.2.2.2.1 x.2.2.2.2.2.2.2.2.2.2.2.2.2.2.2.2.1 x.2.2.2.2.2.2.2.2.2.2.2.2.2.2.2.2.2.1 x.2.2.2.2.2.2.2.2.2.2.2.2.2.2.2.2.2.2.1 x.2.2.2.2.2.2.2.2.2.2.2.2.2.2.2.2.2.2.2.1 x.2.2.2.2.2.2.2.2.2.2.2.2.2.2.2.2.2.2.2.2) fun x=>a3k x.1 x.2.1 x.2.2.1 x.2.2.2.1 x.2.2.2.2.1 x.2.2.2.2.2.1 x.2.2.2.2.2.2.1 x.2.2.2.2.2.2.2.1 x.2.2.2.2.2.2.2.2.1 x.2.2.2.2.2.2.2.2.2.1 x.2.2.2.2.2.2.2.2.2.2.1 x.2.2.2.2.2.2.2.2.2.2.2.1 x.2.2.2.2.2.2.2.2.2.2.2.2.1 x.2.2.2.2.2.2.2.2.2.2.2.2.2.1 x.2.2.2.2.2.2.2.2.2.2.2.2.2.2.1 x.2.2.2.2.2.2.2.2.2.2.2.2.2.2.2.1 x.2.2.2.2.2.2.2.2.2.2.2.2.2.2.2.2.1 x.2.2.2.2.2.2.2.2.2.2.2.2.2.2.2.2.2.1 x.2.2.2.2.2.2.2.2.2.2.2.2.2.2.2.2.2.2.1 x.2.2.2.2.2.2.2.2.2.2.2.2.2.2.2.2.2.2.2.1 x.2.2.2.2.2.2.2.2.2.2.2.2.2.2.2.2.2.2.2.2
@[go_sem] theorem aMz:aBn (no_index a3i) (no_index (a3j O Z aA aB aC aD aE aF aG aH aI aJ aK aL aM aN aO aP aQ aR aS))=some (a3k O Z aA aB aC aD aE aF aG aH aI aJ aK aL aM aN aO aP aQ aR aS):=pN (fun⟨a0,a1,a2,a3,a4,a5,a6,a7,a8,a9,a10,a11,a12,a13,a14,a15,a16,a17,a18,a19,a20⟩ ⟨b0,b1,b2,b3,b4,b5,b6,b7,b8,b9,b10,b11,b12,b13,b14,qI,b16,b17,b18,b19,b20⟩ h1 h2=>by cases h1;cases h2;rfl) (O,Z,aA,aB,aC,aD,aE,aF,aG,aH,aI,aJ,aK,aL,aM,aN,aO,aP,aQ,aR,aS)
end
@[reducible,go_sem] def a3l:Nat×Sig:=(149,⟨[.p q8 [11,13],.p r8 [3,6]],aBn,[(0,12,.m),(3,4,.r),(3,8,.m)],[1,2,4,5,6,7],none⟩)
theorem aBo:Env Tryz.prog [] (pE [GK,DC]):=⟨trivial,p5 a2h (p5 P7 pP),pH⟩
theorem aBp:Env Tryz.prog [q7,AM,yV] (pE [GK,DC]):=⟨⟨q9,⟨CQ,⟨AK,trivial⟩⟩⟩,aBo.Γ,pH⟩
theorem aG9:pI Tryz.prog a3l:=by
 refine pO aBo Tryz.func149 (c:=_) rfl (N:=13) (by kernel_rfl) (ts:=[]) rfl (fun _ _=>rfl) ?_
 intro⟨O,Z,aA,aB,aC,aD,aE,aF,aG,aH,aI,aJ,aK,aL,aM,aN,aO,aP,aQ,aR,aS⟩ hs hrow
 dsimp only[a3i,a3j,a3k,pJ,enumH,pD,pG,pL,Nat.reduceAdd] at hs hrow⊢
 obtain⟨rfl,rfl,rfl,rfl,rfl,hz⟩:=hs
 obtain⟨rfl,_⟩:=hrow
 obtain⟨z0,hC0⟩:=Option.isSome_iff_exists.1 hz
 try rw[pW hC0]
 clear hz
 unfold xP at hC0
 obtain⟨aT,hv1,hw1,hC0⟩:=p8 hC0
 try simp only[go_sem] at hw1
 refine oS aBp ?_ (hp:=by exact And.intro (by first|exact rfl|exact trivial) (And.intro (by first|exact rfl|exact trivial) (And.intro (by first|exact rfl|exact trivial) (And.intro (by first|exact rfl|exact trivial) (And.intro (by first|exact rfl|exact trivial) (And.intro (by first|exact rfl|exact trivial) (And.intro (by first|exact rfl|exact trivial) (And.intro (by first|exact rfl|exact trivial) (And.intro (by first|exact rfl|exact trivial) (And.intro (by first|exact rfl|exact trivial) (And.intro (by first|exact rfl|exact trivial) (And.intro (by first|exact rfl|exact trivial) ((p7 hv1)))))))))))))) (h:=by simp only[go_sem,hw1];rfl)
 obtain⟨aU,hv2,hw2,hC0⟩:=p8 hC0
 try simp only[go_sem] at hw2
 refine pF aBp ?_ (hp:=by exact And.intro (by first|exact rfl|exact trivial) (And.intro (by first|exact rfl|exact trivial) (And.intro (by first|exact rfl|exact trivial) (And.intro (by first|exact rfl|exact trivial) (And.intro (by first|exact rfl|exact trivial) ((p7 hv2))))))) (h:=by simp only[go_sem,hw2];rfl)
 cases hC0
 exact⟨[(0,0),(1,1),(2,2),(3,3),(4,4),(5,5),(6,6),(7,7),(8,8)],by rfl,by rfl,by rfl⟩
attribute [irreducible] xP
def zU (O:(List UInt8)):Option ((List UInt8)×(List (List UInt8))×(List UInt8)×Int):=
 (zB O).bind fun Z=>
 if (!decide (Z.2.2.2.2.2.2=(0:Int)))=true then
  some ((([]:List UInt8),([]:List (List UInt8)),([]:List UInt8),Z.2.2.2.2.2.2))
 else
  (CX O Z.2.2.2.2.1).bind fun aA=>
  some ((aA.1,aA.2.1,aA.2.2,(0:Int)))
section
variable (O:(List UInt8))
@[reducible] def a3b:List Slot:=[(.val .str O,none)]
@[reducible] def a3c:List Blk:=[]
@[go_sem] def a3d:Ret:=⟨[((zU O)).isSome=true],[(.val AD ((val (zU O)).1,((val (zU O)).2.1,((val (zU O)).2.2.1,()))),none),(.val (.int .i64) ((val (zU O)).2.2.2),none)],[]⟩
def aBj:List Slot→List Blk→Option Ret:=pM (V:=(List UInt8)) (fun x=>a3b x) (fun x=>a3c) fun x=>a3d x
@[go_sem] theorem aMx:aBj (no_index (a3b O)) (no_index a3c)=some (a3d O):=pN (fun a0 b0 h1 h2=>by cases h1;cases h2;rfl) O
end
@[reducible,go_sem] def aBk:Nat×Sig:=(14,⟨[.v],aBj,[],[],none⟩)
theorem IK:Env Tryz.prog [AH,BF] (pE [aBa,a9v]):=⟨⟨CN,⟨E3,trivial⟩⟩,p5 aG2 (p5 aGp pP),pH⟩
theorem aG7:pI Tryz.prog aBk:=by
 refine pO IK Tryz.func14 (c:=_) rfl (N:=22) (by kernel_rfl) (ts:=[(2,some 37),(3,none)]) rfl (fun _ _=>rfl) ?_
 intro O hs hrow
 dsimp only[a3b,a3c,a3d,pJ,enumH,pD,pG,pL,Nat.reduceAdd] at hs hrow⊢
 have hz:=hs
 obtain⟨z0,hC0⟩:=Option.isSome_iff_exists.1 hz
 try rw[pW hC0]
 clear hz hs
 unfold zU at hC0
 refine oS IK ?_
 obtain⟨Z,hv1,hw1,hC0⟩:=p8 hC0
 try simp only[go_sem] at hw1
 refine oS IK ?_ (hp:=by exact(p7 hv1)) (h:=by simp only[go_sem,hw1];rfl)
 refine p4 ?_
 refine oS IK ?_
 refine oX hC0 (fun hC0 hc1=> ?_) (fun hC0 hc1=> ?_)
 ·refine oS IK ?_
  refine oV (pC ?_)
  cases hC0
  exact⟨[],by rfl,by rfl,by rfl⟩
 ·refine p6 (oW ?_)
  obtain⟨aA,hv2,hw2,hC0⟩:=p8 hC0
  try simp only[go_sem] at hw2
  refine oS IK ?_ (hp:=by exact(p7 hv2)) (h:=by simp only[go_sem,hw2];rfl)
  refine oV ?_
  cases hC0
  exact⟨[],by rfl,by rfl,by rfl⟩
attribute [irreducible] zU
end
end Go.Proofs.YtfchbnahjcdiiaaGreatDoor
namespace Go.Proofs.YtfchbnahjcdiiaaGreatDoor
open Vc
set_option maxRecDepth 100000
set_option maxHeartbeats 4000000
set_option linter.unusedSimpArgs false
set_option linter.unusedVariables false
noncomputable section
def xQ (O:((List UInt8)×(Int×Unit))) (Z:qA) (aA:Int) (aB:Int) (aC:qB) (aD:((List Int)×(Int×Unit))) (aE:(List UInt8)) (aF:(List UInt8)) (aG:(List UInt8)) (aH:(List (List UInt8))) (aI:(Int×((List p9)×Unit))) (aJ:Bool) (aK:(List ((List UInt8)×Bool))) (aL:(List (List UInt8))) (aM:(List ((List UInt8)×Bool))):Option (Int×Int×(List UInt8)×Int×Int×Int×Int×Int×(List UInt8)):=
 (vL O Z aA aB aC aD aE aF aG aH aI aJ aK aL aM).bind fun aN=>
 (uZ (O.1,(aN.1,())) (aN.2.1,(aN.2.2.1,(aN.2.2.2.1,(aN.2.2.2.2.1,())))) aN.2.2.2.2.2.1 aN.2.2.2.2.2.2.1 (aC.1,(aC.2.1,(aC.2.2.1,(aC.2.2.2.1,())))) (aD.1,(aN.2.2.2.2.2.2.2,())) aK).bind fun aO=>
 some ((aO.1,aO.2.1,aO.2.2.1,aO.2.2.2.1,aO.2.2.2.2.1,aO.2.2.2.2.2.1,aO.2.2.2.2.2.2.1,aO.2.2.2.2.2.2.2,aN.2.2.1))
section
variable (O:((List UInt8)×(Int×Unit))) (Z:qA) (aA:Int) (aB:Int) (aC:qB) (aD:((List Int)×(Int×Unit))) (aE:Nat) (aF:Nat) (aG:(List UInt8)) (aH:(List UInt8)) (aI:(List UInt8)) (aJ:(List (List UInt8))) (aK:Nat) (aL:(Int×((List p9)×Unit))) (aM:Bool) (aN:Nat) (aO:Nat) (aP:(List ((List UInt8)×Bool))) (aQ:(List (List UInt8))) (aR:Nat) (aS:(List ((List UInt8)×Bool)))
@[reducible] def a3m:List Slot:=[(.val .ref (some (0,0)),none),(.val .ref (some (3,0)),none)]
@[reducible] def a3n:List Blk:=[.cells q8 (O,(Z,(aA,(aB,(aC,((some 6),aD)))))) [(11,1),(13,2)],.grow 52 7 aE,.grow 3 1 aF,.cells r8 ((aG,(aH,(aI,(aJ,((some (7,aK)),aL))))),(aM,((some 8),()))) [(3,4),(6,5)],.grow 9 1 aN,.grow 144 2 aO,.map .str .bool aP,.row 9 .str aQ aR,.map .str .bool aS]
@[go_sem] def a3o:Ret:=⟨[aE=(List.length aC.2.2.2.1),aF=(List.length aD.1),aN=(List.length aJ),aO=(List.length aL.2.1),aK=aR,((xQ O Z aA aB aC aD aG aH aI aJ aL aM aP aQ aS)).isSome=true],[],[.cells q8 ((O.1,((val (xQ O Z aA aB aC aD aG aH aI aJ aL aM aP aQ aS)).1,())),(((val (xQ O Z aA aB aC aD aG aH aI aJ aL aM aP aQ aS)).2.1,((val (xQ O Z aA aB aC aD aG aH aI aJ aL aM aP aQ aS)).2.2.1,((val (xQ O Z aA aB aC aD aG aH aI aJ aL aM aP aQ aS)).2.2.2.1,((val (xQ O Z aA aB aC aD aG aH aI aJ aL aM aP aQ aS)).2.2.2.2.1,())))),((val (xQ O Z aA aB aC aD aG aH aI aJ aL aM aP aQ aS)).2.2.2.2.2.1,((val (xQ O Z aA aB aC aD aG aH aI aJ aL aM aP aQ aS)).2.2.2.2.2.2.1,((aC.1,(aC.2.1,(aC.2.2.1,(aC.2.2.2.1,())))),((some 6),(aD.1,((val (xQ O Z aA aB aC aD aG aH aI aJ aL aM aP aQ aS)).2.2.2.2.2.2.2.1,())))))))) [(11,1),(13,2)],.grow 52 7 (List.length aC.2.2.2.1),.grow 3 1 (List.length aD.1),.cells r8 ((aG,(aH,((val (xQ O Z aA aB aC aD aG aH aI aJ aL aM aP aQ aS)).2.2.2.2.2.2.2.2,(aJ,((some (7,(List.length aQ))),(aL.1,(aL.2.1,()))))))),(aM,((some 8),()))) [(3,4),(6,5)],.grow 9 1 (List.length aJ),.grow 144 2 (List.length aL.2.1),.map .str .bool aP,.row 9 .str aQ (List.length aQ),.map .str .bool (rB .str .bool Z.2.1 true aS)]⟩
def aBq:List Slot→List Blk→Option Ret:=pM (V:=(((List UInt8)×(Int×Unit))×qA×Int×Int×qB×((List Int)×(Int×Unit))×Nat×Nat×(List UInt8)×(List UInt8)×(List UInt8)×(List (List UInt8))×Nat×(Int×((List p9)×Unit))×Bool×Nat×Nat×(List ((List UInt8)×Bool))×(List (List UInt8))×Nat×(List ((List UInt8)×Bool)))) (fun x=>a3m) (fun x=>a3n x.1 x.2.1 x.2.2.1 x.2.2.2.1 x.2.2.2.2.1 x.2.2.2.2.2.1 x.2.2.2.2.2.2.1 x.2.2.2.2.2.2.2.1 x.2.2.2.2.2.2.2.2.1 x.2.2.2.2.2.2.2.2.2.1 x.2.2.2.2.2.2.2.2.2.2.1 x.2.2.2.2.2.2.2.2.2.2.2.1 x.2.2.2.2.2.2.2.2.2.2.2.2.1 x.2.2.2.2.2.2.2.2.2.2.2.2.2.1 x.2.2.2.2.2.2.2.2.2.2.2.2.2.2.1 x.2.2.2.2.2.2.2.2.2.2.2.2.2.2.2.1 x.2.2.2.2.2.2.2.2.2.2.2.2.2.2.2.2.1 x.2.2.2.2.2.2.2.2.2.2.2.2.2.2.2.2.2.1 x.2.2.2.2.2.2.2.2.2.2.2.2.2.2.2.2.2.2.1 x.2.2.2.2.2.2.2.2.2.2.2.2.2.2.2.2.2.2.2.1 x.2.2.2.2.2.2.2.2.2.2.2.2.2.2.2.2.2.2.2.2) fun x=>a3o x.1 x.2.1 x.2.2.1 x.2.2.2.1 x.2.2.2.2.1 x.2.2.2.2.2.1 x.2.2.2.2.2.2.1 x.2.2.2.2.2.2.2.1 x.2.2.2.2.2.2.2.2.1 x.2.2.2.2.2.2.2.2.2.1 x.2.2.2.2.2.2.2.2.2.2.1 x.2.2.2.2.2.2.2.2.2.2.2.1 x.2.2.2.2.2.2.2.2.2.2.2.2.1 x.2.2.2.2.2.2.2.2.2.2.2.2.2.1 x.2.2.2.2.2.2.2.2.2.2.2.2.2.2.1 x.2.2.2.2.2.2.2.2.2.2.2.2.2.2.2.1 x.2.2.2.2.2.2.2.2.2.2.2.2.2.2.2.2.1 x.2.2.2.2.2.2.2.2.2.2.2.2.2.2.2.2.2.1 x.2.2.2.2.2.2.2.2.2.2.2.2.2.2.2.2.2.2.1 x.2.2.2.2.2.2.2.2.2.2.2.2.2.2.2.2.2.2.2.1 x.2.2.2.2.2.2.2.2.2.2.2.2.2.2.2.2.2.2.2.2
@[go_sem] theorem aMA:aBq (no_index a3m) (no_index (a3n O Z aA aB aC aD aE aF aG aH aI aJ aK aL aM aN aO aP aQ aR aS))=some (a3o O Z aA aB aC aD aE aF aG aH aI aJ aK aL aM aN aO aP aQ aR aS):=pN (fun⟨a0,a1,a2,a3,a4,a5,a6,a7,a8,a9,a10,a11,a12,a13,a14,a15,a16,a17,a18,a19,a20⟩ ⟨b0,b1,b2,b3,b4,b5,b6,b7,b8,b9,b10,b11,b12,b13,b14,qI,b16,b17,b18,b19,b20⟩ h1 h2=>by cases h1;cases h2;rfl) (O,Z,aA,aB,aC,aD,aE,aF,aG,aH,aI,aJ,aK,aL,aM,aN,aO,aP,aQ,aR,aS)
end
@[reducible,go_sem] def a3p:Nat×Sig:=(150,⟨[.p q8 [11,13],.p r8 [3,6]],aBq,[(0,12,.m),(3,4,.r),(3,8,.m)],[1,2,4,5,6,7],none⟩)
theorem aBr:Env Tryz.prog [] (pE [GK,DC]):=⟨trivial,p5 a2h (p5 P7 pP),pH⟩
theorem aBs:Env Tryz.prog [q7,AM,yV] (pE [GK,DC]):=⟨⟨q9,⟨CQ,⟨AK,trivial⟩⟩⟩,aBr.Γ,pH⟩
theorem aHa:pI Tryz.prog a3p:=by
 refine pO aBr Tryz.func150 (c:=_) rfl (N:=13) (by kernel_rfl) (ts:=[]) rfl (fun _ _=>rfl) ?_
 intro⟨O,Z,aA,aB,aC,aD,aE,aF,aG,aH,aI,aJ,aK,aL,aM,aN,aO,aP,aQ,aR,aS⟩ hs hrow
 dsimp only[a3m,a3n,a3o,pJ,enumH,pD,pG,pL,Nat.reduceAdd] at hs hrow⊢
 obtain⟨rfl,rfl,rfl,rfl,rfl,hz⟩:=hs
 obtain⟨rfl,_⟩:=hrow
 obtain⟨z0,hC0⟩:=Option.isSome_iff_exists.1 hz
 try rw[pW hC0]
 clear hz
 unfold xQ at hC0
 obtain⟨aT,hv1,hw1,hC0⟩:=p8 hC0
 try simp only[go_sem] at hw1
 refine oS aBs ?_ (hp:=by exact And.intro (by first|exact rfl|exact trivial) (And.intro (by first|exact rfl|exact trivial) (And.intro (by first|exact rfl|exact trivial) (And.intro (by first|exact rfl|exact trivial) (And.intro (by first|exact rfl|exact trivial) (And.intro (by first|exact rfl|exact trivial) (And.intro (by first|exact rfl|exact trivial) (And.intro (by first|exact rfl|exact trivial) (And.intro (by first|exact rfl|exact trivial) (And.intro (by first|exact rfl|exact trivial) (And.intro (by first|exact rfl|exact trivial) (And.intro (by first|exact rfl|exact trivial) ((p7 hv1)))))))))))))) (h:=by simp only[go_sem,hw1];rfl)
 obtain⟨aU,hv2,hw2,hC0⟩:=p8 hC0
 try simp only[go_sem] at hw2
 refine pF aBs ?_ (hp:=by exact And.intro (by first|exact rfl|exact trivial) (And.intro (by first|exact rfl|exact trivial) (And.intro (by first|exact rfl|exact trivial) (And.intro (by first|exact rfl|exact trivial) (And.intro (by first|exact rfl|exact trivial) ((p7 hv2))))))) (h:=by simp only[go_sem,hw2];rfl)
 cases hC0
 exact⟨[(0,0),(1,1),(2,2),(3,3),(4,4),(5,5),(6,6),(7,7),(8,8)],by rfl,by rfl,by rfl⟩
attribute [irreducible] xQ
end
end Go.Proofs.YtfchbnahjcdiiaaGreatDoor
namespace Go.Proofs.YtfchbnahjcdiiaaGreatDoor
open Vc
set_option maxRecDepth 100000
set_option maxHeartbeats 4000000
set_option linter.unusedSimpArgs false
set_option linter.unusedVariables false
noncomputable section
def tK (O:((List UInt8)×(Int×Unit))) (Z:qB) (aA:((List Int)×(Int×Unit))) (aB:Bool) (aC:(List ((List UInt8)×Bool))):(Int×Int×(List UInt8)×Int×Int×Int×Int×Int×(List UInt8)×(List UInt8)×(List (List UInt8))×Int×(List p9)×(List (List UInt8))×(List ((List UInt8)×Bool)))→Option ((Int×Int×(List UInt8)×Int×Int×Int×Int×Int×(List UInt8)×(List UInt8)×(List (List UInt8))×Int×(List p9)×(List (List UInt8))×(List ((List UInt8)×Bool)))⊕(Int×Int×(List UInt8)×Int×Int×Int×Int×Int×(List UInt8)×(List UInt8)×(List (List UInt8))×Int×(List p9)×(List (List UInt8))×(List ((List UInt8)×Bool)))):=fun(aD,aE,aF,aG,aH,aI,aJ,aK,aL,aM,aN,aO,aP,aQ,aR)=>
 if ((decide (aJ=(0:Int)))&&(decide (aE=(2:Int))))=true then
  if (!(uH .str .fn (uE ([]:List UInt8) aL aM aN (aO,(aP,())) aB aQ aR) aF))=true then
   q6 (s7 (O.1,(aD,())) (aE,(aF,(aG,(aH,())))) aI aJ (Z.1,(Z.2.1,(Z.2.2.1,(Z.2.2.2.1,())))) (aA.1,(aK,())) (3:Int) aC) fun aS=>
   some (.inr (aD,aE,aF,aG,aH,aS.1,aS.2,aK,aL,aM,aN,aO,aP,aQ,aR))
  else
   q6 (qE .str .fn (uE ([]:List UInt8) aL aM aN (aO,(aP,())) aB aQ aR) aF) fun aT=>
   if aT=some 147 then
    (vM (O.1,(aD,())) (aE,(aF,(aG,(aH,())))) aI aJ (Z.1,(Z.2.1,(Z.2.2.1,(Z.2.2.2.1,())))) (aA.1,(aK,())) ([]:List UInt8) aL aM aN (aO,(aP,())) aB aC aQ aR).bind fun aU=>
    some (.inl (aU.1,aU.2.1,aU.2.2.1,aU.2.2.2.1,aU.2.2.2.2.1,aU.2.2.2.2.2.1,aU.2.2.2.2.2.2.1,aU.2.2.2.2.2.2.2.1,aL,aM,aU.2.2.2.2.2.2.2.2,aO,aP,aQ,aR))
   else
   if aT=some 148 then
    (xC (O.1,(aD,())) (aE,(aF,(aG,(aH,())))) aI aJ (Z.1,(Z.2.1,(Z.2.2.1,(Z.2.2.2.1,())))) (aA.1,(aK,())) ([]:List UInt8) aL aM aN (aO,(aP,())) aB aC aQ aR).bind fun aV=>
    some (.inl (aV.1,aV.2.1,aV.2.2.1,aV.2.2.2.1,aV.2.2.2.2.1,aV.2.2.2.2.2.1,aV.2.2.2.2.2.2.1,aV.2.2.2.2.2.2.2.1,aL,aM,aN,aO,aV.2.2.2.2.2.2.2.2,aQ,aR))
   else
   if aT=some 149 then
    (xP (O.1,(aD,())) (aE,(aF,(aG,(aH,())))) aI aJ (Z.1,(Z.2.1,(Z.2.2.1,(Z.2.2.2.1,())))) (aA.1,(aK,())) ([]:List UInt8) aL aM aN (aO,(aP,())) aB aC aQ aR).bind fun aW=>
    some (.inl (aW.1,aW.2.1,aW.2.2.1,aW.2.2.2.1,aW.2.2.2.2.1,aW.2.2.2.2.2.1,aW.2.2.2.2.2.2.1,aW.2.2.2.2.2.2.2.1,aW.2.2.2.2.2.2.2.2,aM,aN,aO,aP,aQ,(rB .str .bool aF true aR)))
   else
   if aT=some 150 then
    (xQ (O.1,(aD,())) (aE,(aF,(aG,(aH,())))) aI aJ (Z.1,(Z.2.1,(Z.2.2.1,(Z.2.2.2.1,())))) (aA.1,(aK,())) ([]:List UInt8) aL aM aN (aO,(aP,())) aB aC aQ aR).bind fun aX=>
    some (.inl (aX.1,aX.2.1,aX.2.2.1,aX.2.2.2.1,aX.2.2.2.2.1,aX.2.2.2.2.2.1,aX.2.2.2.2.2.2.1,aX.2.2.2.2.2.2.2.1,aL,aX.2.2.2.2.2.2.2.2,aN,aO,aP,aQ,(rB .str .bool aF true aR)))
   else
   if aT=some 151 then
    (xO (O.1,(aD,())) (aE,(aF,(aG,(aH,())))) aI aJ (Z.1,(Z.2.1,(Z.2.2.1,(Z.2.2.2.1,())))) (aA.1,(aK,())) ([]:List UInt8) aL aM aN (aO,(aP,())) aB aC aQ aR).bind fun aY=>
    some (.inl (aY.1,aY.2.1,aY.2.2.1,aY.2.2.2.1,aY.2.2.2.2.1,aY.2.2.2.2.2.1,aY.2.2.2.2.2.2.1,aY.2.2.2.2.2.2.2.1,aL,aM,aN,aY.2.2.2.2.2.2.2.2,aP,aQ,(rB .str .bool aF true aR)))
   else
   if aT=some 152 then
    (wC (O.1,(aD,())) (aE,(aF,(aG,(aH,())))) aI aJ (Z.1,(Z.2.1,(Z.2.2.1,(Z.2.2.2.1,())))) (aA.1,(aK,())) ([]:List UInt8) aL aM aN (aO,(aP,())) aB aC aQ aR).bind fun aZ=>
    some (.inl (aZ.1,aZ.2.1,aZ.2.2.1,aZ.2.2.2.1,aZ.2.2.2.2.1,aZ.2.2.2.2.2.1,aZ.2.2.2.2.2.2.1,aZ.2.2.2.2.2.2.2.1,aL,aM,aN,aO,aP,aZ.2.2.2.2.2.2.2.2,aR))
   else
    none
 else
  some (.inr (aD,aE,aF,aG,aH,aI,aJ,aK,aL,aM,aN,aO,aP,aQ,aR))
def tE (O:((List UInt8)×(Int×Unit))) (Z:qA) (aA:Int) (aB:Int) (aC:qB) (aD:((List Int)×(Int×Unit))) (aE:Bool) (aF:(List ((List UInt8)×Bool))):Option ((List UInt8)×(List UInt8)×(List (List UInt8))×(List (List UInt8))×Int×(List p9)×Int×Int×(List UInt8)×Int×Int×Int×Int×(List Int)×Int):=
 (v6 O Z aA aB aC aD (3:Int) ([123]:List UInt8) aF).bind fun aG=>
 qD (pR (tK O aC aD aE aF) (aG.1,aG.2.1,aG.2.2.1,aG.2.2.2.1,aG.2.2.2.2.1,aG.2.2.2.2.2.1,aG.2.2.2.2.2.2.1,aG.2.2.2.2.2.2.2,([]:List UInt8),([]:List UInt8),([]:List (List UInt8)),(0:Int),([]:List p9),([]:List (List UInt8)),([]:List ((List UInt8)×Bool)))) fun(aH,aI,aJ,aK,aL,aM,aN,aO,aP,aQ,aR,aS,aT,aU,aV)=>
 (v6 (O.1,(aH,())) (aI,(aJ,(aK,(aL,())))) aM aN (aC.1,(aC.2.1,(aC.2.2.1,(aC.2.2.2.1,())))) (aD.1,(aO,())) (3:Int) ([125]:List UInt8) aF).bind fun aW=>
 if (List.length aU)<4611686018427387904 then
  if (List.length aD.1+List.length ([aW.2.2.2.2.2.2.2]:List Int))*8≤140737488355328 then
   some ((aP,aQ,aR,(tP aU),aS,aT,aW.1,aW.2.1,aW.2.2.1,aW.2.2.2.1,aW.2.2.2.2.1,aW.2.2.2.2.2.1,aW.2.2.2.2.2.2.1,(aD.1++([aW.2.2.2.2.2.2.2]:List Int)),aW.2.2.2.2.2.2.2))
  else none
 else none
section
variable (O:Bool) (Z:((List UInt8)×(Int×Unit))) (aA:qA) (aB:Int) (aC:Int) (aD:qB) (aE:((List Int)×(Int×Unit))) (aF:Nat) (aG:Nat) (aH:(List ((List UInt8)×Bool)))
@[reducible] def a3q:List Slot:=[(.val .ref (some (0,0)),none),(.val .bool O,none)]
@[reducible] def a3r:List Blk:=[.cells q8 (Z,(aA,(aB,(aC,(aD,((some 3),aE)))))) [(11,1),(13,2)],.grow 52 7 aF,.grow 3 1 aG,.map .str .bool aH]
@[go_sem] def a3s:Ret:=⟨[aF=(List.length aD.2.2.2.1),aG=(List.length aE.1),((tE Z aA aB aC aD aE O aH)).isSome=true],[(.val uJ (([]:List UInt8),((val (tE Z aA aB aC aD aE O aH)).1,((val (tE Z aA aB aC aD aE O aH)).2.1,((val (tE Z aA aB aC aD aE O aH)).2.2.1,((val (tE Z aA aB aC aD aE O aH)).2.2.2.1,((val (tE Z aA aB aC aD aE O aH)).2.2.2.2.1,((val (tE Z aA aB aC aD aE O aH)).2.2.2.2.2.1,()))))))),none)],[.cells q8 ((Z.1,((val (tE Z aA aB aC aD aE O aH)).2.2.2.2.2.2.1,())),(((val (tE Z aA aB aC aD aE O aH)).2.2.2.2.2.2.2.1,((val (tE Z aA aB aC aD aE O aH)).2.2.2.2.2.2.2.2.1,((val (tE Z aA aB aC aD aE O aH)).2.2.2.2.2.2.2.2.2.1,((val (tE Z aA aB aC aD aE O aH)).2.2.2.2.2.2.2.2.2.2.1,())))),((val (tE Z aA aB aC aD aE O aH)).2.2.2.2.2.2.2.2.2.2.2.1,((val (tE Z aA aB aC aD aE O aH)).2.2.2.2.2.2.2.2.2.2.2.2.1,((aD.1,(aD.2.1,(aD.2.2.1,(aD.2.2.2.1,())))),((some 3),((val (tE Z aA aB aC aD aE O aH)).2.2.2.2.2.2.2.2.2.2.2.2.2.1,((val (tE Z aA aB aC aD aE O aH)).2.2.2.2.2.2.2.2.2.2.2.2.2.2,())))))))) [(11,1),(13,2)],.grow 52 7 (List.length aD.2.2.2.1),.grow 3 1 (List.length ((val (tE Z aA aB aC aD aE O aH)).2.2.2.2.2.2.2.2.2.2.2.2.2.1)),.map .str .bool aH]⟩
def aBt:List Slot→List Blk→Option Ret:=pM (V:=(Bool×((List UInt8)×(Int×Unit))×qA×Int×Int×qB×((List Int)×(Int×Unit))×Nat×Nat×(List ((List UInt8)×Bool)))) (fun x=>a3q x.1) (fun x=>a3r x.2.1 x.2.2.1 x.2.2.2.1 x.2.2.2.2.1 x.2.2.2.2.2.1 x.2.2.2.2.2.2.1 x.2.2.2.2.2.2.2.1 x.2.2.2.2.2.2.2.2.1 x.2.2.2.2.2.2.2.2.2) fun x=>a3s x.1 x.2.1 x.2.2.1 x.2.2.2.1 x.2.2.2.2.1 x.2.2.2.2.2.1 x.2.2.2.2.2.2.1 x.2.2.2.2.2.2.2.1 x.2.2.2.2.2.2.2.2.1 x.2.2.2.2.2.2.2.2.2
@[go_sem] theorem aMB:aBt (no_index (a3q O)) (no_index (a3r Z aA aB aC aD aE aF aG aH))=some (a3s O Z aA aB aC aD aE aF aG aH):=pN (fun⟨a0,a1,a2,a3,a4,a5,a6,a7,a8,a9⟩ ⟨b0,b1,b2,b3,b4,b5,b6,b7,b8,b9⟩ h1 h2=>by cases h1;cases h2;rfl) (O,Z,aA,aB,aC,aD,aE,aF,aG,aH)
end
@[reducible,go_sem] def a3t:Nat×Sig:=(73,⟨[.p q8 [11,13],.v],aBt,[(0,12,.m)],[1,3],none⟩)
theorem PA:Env Tryz.prog [yU,TU] (pE [LL,VY,wT,a3a,a3h,a3l,a3p,a2X,a26,TX]):=⟨⟨AI,⟨aFJ,trivial⟩⟩,p5 a2J (p5 aF4 (p5 BK (p5 aG6 (p5 aG8 (p5 aG9 (p5 aHa (p5 aG4 (p5 aG5 (p5 aFP pP))))))))),pH⟩
theorem xR:Env Tryz.prog [s5,BH,q7,uK,vH,AM,wR,G1,AL,uV,yV,ON,OO] (pE [LL,VY,wT,a3a,a3h,a3l,a3p,a2X,a26,TX]):=⟨⟨sG,⟨E4,⟨q9,⟨vG,⟨wQ,⟨CQ,⟨yB,⟨KP,⟨CP,⟨w6,⟨AK,⟨a7q,⟨a7r,trivial⟩⟩⟩⟩⟩⟩⟩⟩⟩⟩⟩⟩⟩,PA.Γ,pH⟩
theorem aBu:pI Tryz.prog a3t:=by
 refine pO PA Tryz.func73 (c:=_) rfl (N:=71) (by kernel_rfl) (ts:=[(4,some 52)]) rfl (fun _ _=>rfl) ?_
 intro⟨O,Z,aA,aB,aC,aD,aE,aF,aG,aH⟩ hs hrow
 dsimp only[a3q,a3r,a3s,pJ,enumH,pD,pG,pL,Nat.reduceAdd] at hs hrow⊢
 obtain⟨rfl,rfl,hz⟩:=hs
 obtain⟨z0,hC0⟩:=Option.isSome_iff_exists.1 hz
 try rw[pW hC0]
 clear hz
 unfold tE at hC0
 refine oS PA ?_
 refine oS xR ?_
 obtain⟨aI,hv1,hw1,hC0⟩:=p8 hC0
 try simp only[go_sem] at hw1
 refine oS xR ?_ (hp:=by exact And.intro (by first|exact rfl|exact trivial) (And.intro (by first|exact rfl|exact trivial) (And.intro (by first|exact rfl|exact trivial) (And.intro (by first|exact rfl|exact trivial) (And.intro (by first|exact rfl|exact trivial) ((p7 hv1))))))) (h:=by simp only[go_sem,hw1];rfl)
 refine p4 (pT ?_)
 obtain⟨y1,hy1,hC0⟩:=oY hC0
 refine rH 0 (fun s=>s=(fun x=>⟨[(0,(.val .ref (some (0,0)),none)),(4,(.val .ref (some (4,0)),none)),(5,(.val .ref (some (5,0)),none))],[(0,.cells q8 ((Z.1,(x.1,())),((x.2.1,(x.2.2.1,(x.2.2.2.1,(x.2.2.2.2.1,())))),(x.2.2.2.2.2.1,(x.2.2.2.2.2.2.1,((aD.1,(aD.2.1,(aD.2.2.1,(aD.2.2.2.1,())))),((some 3),(aE.1,(x.2.2.2.2.2.2.2.1,())))))))) [(11,1),(13,2)]),(1,.grow 52 7 (List.length aD.2.2.2.1)),(2,.grow 3 1 (List.length aE.1)),(3,.map .str .bool aH),(4,.cells uJ (([]:List UInt8),(([]:List UInt8),(([]:List UInt8),(([]:List (List UInt8)),(([]:List (List UInt8)),((0:Int),(([]:List p9),()))))))) [(3,6),(4,7),(6,8)]),(5,.cells r8 ((([]:List UInt8),(x.2.2.2.2.2.2.2.2.1,(x.2.2.2.2.2.2.2.2.2.1,(x.2.2.2.2.2.2.2.2.2.2.1,((some (9,(List.length x.2.2.2.2.2.2.2.2.2.2.2.2.2.1))),(x.2.2.2.2.2.2.2.2.2.2.2.1,(x.2.2.2.2.2.2.2.2.2.2.2.2.1,()))))))),(O,((some 10),()))) [(3,11),(6,12)]),(6,.grow 9 1 (List.length ([]:List (List UInt8)))),(7,.grow 9 1 (List.length ([]:List (List UInt8)))),(8,.grow 144 2 (List.length ([]:List p9))),(9,.row 9 .str x.2.2.2.2.2.2.2.2.2.2.2.2.2.1 (List.length x.2.2.2.2.2.2.2.2.2.2.2.2.2.1)),(10,.map .str .bool x.2.2.2.2.2.2.2.2.2.2.2.2.2.2),(11,.grow 9 1 (List.length x.2.2.2.2.2.2.2.2.2.2.1)),(12,.grow 144 2 (List.length x.2.2.2.2.2.2.2.2.2.2.2.2.1))],13,71,4⟩) y1) ?_ ?_
 ·refine rG hy1 (fun x=>⟨[(0,(.val .ref (some (0,0)),none)),(4,(.val .ref (some (4,0)),none)),(5,(.val .ref (some (5,0)),none))],[(0,.cells q8 ((Z.1,(x.1,())),((x.2.1,(x.2.2.1,(x.2.2.2.1,(x.2.2.2.2.1,())))),(x.2.2.2.2.2.1,(x.2.2.2.2.2.2.1,((aD.1,(aD.2.1,(aD.2.2.1,(aD.2.2.2.1,())))),((some 3),(aE.1,(x.2.2.2.2.2.2.2.1,())))))))) [(11,1),(13,2)]),(1,.grow 52 7 (List.length aD.2.2.2.1)),(2,.grow 3 1 (List.length aE.1)),(3,.map .str .bool aH),(4,.cells uJ (([]:List UInt8),(([]:List UInt8),(([]:List UInt8),(([]:List (List UInt8)),(([]:List (List UInt8)),((0:Int),(([]:List p9),()))))))) [(3,6),(4,7),(6,8)]),(5,.cells r8 ((([]:List UInt8),(x.2.2.2.2.2.2.2.2.1,(x.2.2.2.2.2.2.2.2.2.1,(x.2.2.2.2.2.2.2.2.2.2.1,((some (9,(List.length x.2.2.2.2.2.2.2.2.2.2.2.2.2.1))),(x.2.2.2.2.2.2.2.2.2.2.2.1,(x.2.2.2.2.2.2.2.2.2.2.2.2.1,()))))))),(O,((some 10),()))) [(3,11),(6,12)]),(6,.grow 9 1 (List.length ([]:List (List UInt8)))),(7,.grow 9 1 (List.length ([]:List (List UInt8)))),(8,.grow 144 2 (List.length ([]:List p9))),(9,.row 9 .str x.2.2.2.2.2.2.2.2.2.2.2.2.2.1 (List.length x.2.2.2.2.2.2.2.2.2.2.2.2.2.1)),(10,.map .str .bool x.2.2.2.2.2.2.2.2.2.2.2.2.2.2),(11,.grow 9 1 (List.length x.2.2.2.2.2.2.2.2.2.2.1)),(12,.grow 144 2 (List.length x.2.2.2.2.2.2.2.2.2.2.2.2.1))],13,71,4⟩) ⟨[0,4,5],[(0,0),(1,1),(2,2),(3,3),(4,4),(5,68),(6,5),(7,6),(8,7),(9,71),(10,36),(11,69),(12,70)]⟩ (by rfl) ?_
  intro x1 w1 n1 hC1 hN1
  obtain⟨aJ,aK,aL,aM,aN,aO,aP,aQ,aR,aS,aT,aU,aV,aW,aX⟩:=x1
  unfold tK at hC1
  dsimp only at hC1⊢
  refine p4 ?_
  refine oS xR ?_ (hp:=by exact And.intro (fun hh=>hh) (And.intro (fun hh=>hh) (And.intro (fun hh=>hh) (And.intro (fun hh=>hh) (And.intro (fun hh=>hh) ((fun hh=>pZ hh)))))))
  refine oX hC1 (fun hC1 hc1=> ?_) (fun hC1 hc1=> ?_)
  ·refine p6 (oW (pT ?_))
   refine qK xR ?_ (hp:=by exact And.intro (by first|exact rfl|exact trivial) (And.intro (by first|exact rfl|exact trivial) (And.intro (by first|exact rfl|exact trivial) (And.intro (by first|exact rfl|exact trivial) (And.intro (by first|exact rfl|exact trivial) (And.intro (by first|exact rfl|exact trivial) (And.intro (by first|exact rfl|exact trivial) ((by first|exact rfl|exact trivial)))))))))
   refine p4 ?_
   refine oS xR ?_
   refine oX hC1 (fun hC1 hc2=> ?_) (fun hC1 hc2=> ?_)
   ·obtain⟨aY,hw_357,hC1⟩:=rI hC1
    try simp only[go_sem] at hw_357
    refine oS xR ?_ (hp:=by exact And.intro (by first|exact rfl|exact trivial) (And.intro (by first|exact rfl|exact trivial) (And.intro (by first|exact rfl|exact trivial) (And.intro (by first|exact rfl|exact trivial) ((by first|exact rfl|exact trivial)))))) (h:=by simp only[go_sem,hw_357];rfl)
    refine qW (r7 (T6 (by decide) (qZ ?_)))
    cases hC1
    cases hN1
    exact qY ⟨⟨[0,4,5],[(0,0),(1,1),(2,2),(3,3),(4,4),(5,5),(6,6),(7,7),(8,8),(9,9),(10,10),(11,11),(12,12)]⟩,by rfl⟩
   ·refine p6 (oW ?_)
    replace hC1:=aFb hC1
    generalize (qE .str .fn (uE ([]:List UInt8) aR aS aT (aU,(aV,())) O aW aX) aL)=aZ at hC1⊢
    by_cases hfn:aZ=some 147
    ·subst hfn
     rw[if_pos rfl] at hC1
     obtain⟨bA,hv2,hw2,hC1⟩:=p8 hC1
     try simp only[go_sem] at hw2
     refine pF xR ?_ (hp:=by exact And.intro (by first|exact rfl|exact trivial) (And.intro (by first|exact rfl|exact trivial) (And.intro (by first|exact rfl|exact trivial) (And.intro (by first|exact rfl|exact trivial) (And.intro (by first|exact rfl|exact trivial) (And.intro (by first|exact rfl|exact trivial) (And.intro (by first|exact rfl|exact trivial) (And.intro (by first|exact rfl|exact trivial) (And.intro (by first|exact rfl|exact trivial) (And.intro (by first|exact rfl|exact trivial) (And.intro (by first|exact rfl|exact trivial) ((p7 hv2))))))))))))) (h:=by simp only[go_sem,hw2];rfl)
     refine pB ?_
     cases hC1
     exact qG ⟨⟨[0,4,5],[(0,0),(1,1),(2,2),(3,3),(4,4),(5,5),(6,6),(7,7),(8,8),(9,9),(10,10),(11,11),(12,12)]⟩,_,by rfl,hN1⟩
    rw[if_neg hfn] at hC1
    clear hfn
    by_cases hfn:aZ=some 148
    ·subst hfn
     rw[if_pos rfl] at hC1
     obtain⟨bB,hv3,hw3,hC1⟩:=p8 hC1
     try simp only[go_sem] at hw3
     refine pF xR ?_ (hp:=by exact And.intro (by first|exact rfl|exact trivial) (And.intro (by first|exact rfl|exact trivial) (And.intro (by first|exact rfl|exact trivial) (And.intro (by first|exact rfl|exact trivial) (And.intro (by first|exact rfl|exact trivial) (And.intro (by first|exact rfl|exact trivial) (And.intro (by first|exact rfl|exact trivial) (And.intro (by first|exact rfl|exact trivial) (And.intro (by first|exact rfl|exact trivial) (And.intro (by first|exact rfl|exact trivial) (And.intro (by first|exact rfl|exact trivial) (And.intro (by first|exact rfl|exact trivial) ((p7 hv3)))))))))))))) (h:=by simp only[go_sem,hw3];rfl)
     refine pB ?_
     cases hC1
     exact qG ⟨⟨[0,4,5],[(0,0),(1,1),(2,2),(3,3),(4,4),(5,5),(6,6),(7,7),(8,8),(9,9),(10,10),(11,11),(12,518)]⟩,_,by rfl,hN1⟩
    rw[if_neg hfn] at hC1
    clear hfn
    by_cases hfn:aZ=some 149
    ·subst hfn
     rw[if_pos rfl] at hC1
     obtain⟨bC,hv4,hw4,hC1⟩:=p8 hC1
     try simp only[go_sem] at hw4
     refine pF xR ?_ (hp:=by exact And.intro (by first|exact rfl|exact trivial) (And.intro (by first|exact rfl|exact trivial) (And.intro (by first|exact rfl|exact trivial) (And.intro (by first|exact rfl|exact trivial) (And.intro (by first|exact rfl|exact trivial) (And.intro (by first|exact rfl|exact trivial) (And.intro (by first|exact rfl|exact trivial) (And.intro (by first|exact rfl|exact trivial) (And.intro (by first|exact rfl|exact trivial) (And.intro (by first|exact rfl|exact trivial) (And.intro (by first|exact rfl|exact trivial) ((p7 hv4))))))))))))) (h:=by simp only[go_sem,hw4];rfl)
     refine pB ?_
     cases hC1
     exact qG ⟨⟨[0,4,5],[(0,0),(1,1),(2,2),(3,3),(4,4),(5,5),(6,6),(7,7),(8,8),(9,9),(10,10),(11,11),(12,12)]⟩,_,by rfl,hN1⟩
    rw[if_neg hfn] at hC1
    clear hfn
    by_cases hfn:aZ=some 150
    ·subst hfn
     rw[if_pos rfl] at hC1
     obtain⟨bD,hv5,hw5,hC1⟩:=p8 hC1
     try simp only[go_sem] at hw5
     refine pF xR ?_ (hp:=by exact And.intro (by first|exact rfl|exact trivial) (And.intro (by first|exact rfl|exact trivial) (And.intro (by first|exact rfl|exact trivial) (And.intro (by first|exact rfl|exact trivial) (And.intro (by first|exact rfl|exact trivial) (And.intro (by first|exact rfl|exact trivial) (And.intro (by first|exact rfl|exact trivial) (And.intro (by first|exact rfl|exact trivial) (And.intro (by first|exact rfl|exact trivial) (And.intro (by first|exact rfl|exact trivial) (And.intro (by first|exact rfl|exact trivial) ((p7 hv5))))))))))))) (h:=by simp only[go_sem,hw5];rfl)
     refine pB ?_
     cases hC1
     exact qG ⟨⟨[0,4,5],[(0,0),(1,1),(2,2),(3,3),(4,4),(5,5),(6,6),(7,7),(8,8),(9,9),(10,10),(11,11),(12,12)]⟩,_,by rfl,hN1⟩
    rw[if_neg hfn] at hC1
    clear hfn
    by_cases hfn:aZ=some 151
    ·subst hfn
     rw[if_pos rfl] at hC1
     obtain⟨bE,hv6,hw6,hC1⟩:=p8 hC1
     try simp only[go_sem] at hw6
     refine pF xR ?_ (hp:=by exact And.intro (by first|exact rfl|exact trivial) (And.intro (by first|exact rfl|exact trivial) (And.intro (by first|exact rfl|exact trivial) (And.intro (by first|exact rfl|exact trivial) (And.intro (by first|exact rfl|exact trivial) (And.intro (by first|exact rfl|exact trivial) (And.intro (by first|exact rfl|exact trivial) (And.intro (by first|exact rfl|exact trivial) (And.intro (by first|exact rfl|exact trivial) (And.intro (by first|exact rfl|exact trivial) (And.intro (by first|exact rfl|exact trivial) ((p7 hv6))))))))))))) (h:=by simp only[go_sem,hw6];rfl)
     refine pB ?_
     cases hC1
     exact qG ⟨⟨[0,4,5],[(0,0),(1,1),(2,2),(3,3),(4,4),(5,5),(6,6),(7,7),(8,8),(9,9),(10,10),(11,11),(12,12)]⟩,_,by rfl,hN1⟩
    rw[if_neg hfn] at hC1
    clear hfn
    by_cases hfn:aZ=some 152
    ·subst hfn
     rw[if_pos rfl] at hC1
     obtain⟨bF,hv7,hw7,hC1⟩:=p8 hC1
     try simp only[go_sem] at hw7
     refine pF xR ?_ (hp:=by exact And.intro (by first|exact rfl|exact trivial) (And.intro (by first|exact rfl|exact trivial) (And.intro (by first|exact rfl|exact trivial) (And.intro (by first|exact rfl|exact trivial) (And.intro (by first|exact rfl|exact trivial) (And.intro (by first|exact rfl|exact trivial) (And.intro (by first|exact rfl|exact trivial) (And.intro (by first|exact rfl|exact trivial) (And.intro (by first|exact rfl|exact trivial) (And.intro (by first|exact rfl|exact trivial) (And.intro (by first|exact rfl|exact trivial) ((p7 hv7))))))))))))) (h:=by simp only[go_sem,hw7];rfl)
     refine pB ?_
     cases hC1
     exact qG ⟨⟨[0,4,5],[(0,0),(1,1),(2,2),(3,3),(4,4),(5,5),(6,6),(7,7),(8,8),(9,9),(10,10),(11,11),(12,12)]⟩,_,by rfl,hN1⟩
    rw[if_neg hfn] at hC1
    clear hfn
    cases hC1
  ·refine qW (r7 (qZ ?_))
   cases hC1
   cases hN1
   exact qY ⟨⟨[0,4,5],[(0,0),(1,1),(2,2),(3,3),(4,4),(5,5),(6,6),(7,7),(8,8),(9,9),(10,10),(11,11),(12,12)]⟩,by rfl⟩
 ·rintro _ rfl
  obtain⟨bG,bH,bI,bJ,bK,bM,bN,bO,bP,bQ,bR,bS,bT,bU,bV⟩:=y1
  dsimp only at hC0⊢
  refine rE (oW ?_)
  obtain⟨bW,hv8,hw8,hC0⟩:=p8 hC0
  try simp only[go_sem] at hw8
  refine oS xR ?_ (hp:=by exact And.intro (by first|exact rfl|exact trivial) (And.intro (by first|exact rfl|exact trivial) (And.intro (by first|exact rfl|exact trivial) (And.intro (by first|exact rfl|exact trivial) (And.intro (by first|exact rfl|exact trivial) ((p7 hv8))))))) (h:=by simp only[go_sem,hw8];rfl)
  obtain⟨hg9,hC0⟩:=oU hC0
  refine oS xR ?_ (hp:=by exact And.intro (by first|exact rfl|exact trivial) (hg9))
  obtain⟨hg10,hC0⟩:=oU hC0
  refine qK xR ?_ (hp:=by exact And.intro (by first|exact rfl|exact trivial) (hg10))
  refine p4 ?_
  refine aE4 9 5 rfl rfl (Nat.le_of_ble_eq_true rfl) (by repeat' (first|exact trivial|apply And.intro|exact(fun _=>rfl) |exact(fun h=>absurd h (by decide)))) (by repeat' (first|exact trivial|apply And.intro|exact(fun _=>rfl) |exact(fun h=>absurd h (by decide)))) (u':=a7o) (y':=((([]:List UInt8),(bP,(bQ,(bR,((tP bU),(bS,(bT,()))))))),(O,((some 10),())))) (by first|rfl|kernel_rfl) ?_
  refine pF PA ?_
  refine oW (oV ?_)
  cases hC0
  exact⟨[(0,0),(1,1),(2,2),(3,3)],by rfl,by rfl,by rfl⟩
attribute [irreducible] tE
end
end Go.Proofs.YtfchbnahjcdiiaaGreatDoor
