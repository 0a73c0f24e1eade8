import Derived.Test.YtedimeeleabhnaaGreatDoorA03b
set_option linter.all false
set_option maxRecDepth 100000
set_option maxHeartbeats 4000000
namespace Go.Proofs.YtedimeeleabhnaaGreatDoor
open Vc
open Tryz
noncomputable section
abbrev a0a (x:(Ja0×Int×Bool)):List qK:=[sv (.list .part) x.1,iv x.2.1,bv x.2.2]
@[go_sem] def a0b (O:Ja0->Int->Bool->Option Bool):(Ja0×Int×Bool)->r8:=fun(a8,aA,aB)=>rv [] (O a8 aA aB) λz=>([bv z],[])
@[go_sem] def aLT (O:Ja0->Int->Bool->Option Bool) a8 aA aB:=rF a0a qU (a0b O) (a8,aA,aB)
@[go_sem] abbrev ez (F:Ja0->Int->Bool->Option Bool):Nat×r7:=mE 155 [.v,.v,.v] a0a qU (a0b F)
section
variable {O:Ja0->Int->Bool->Option Bool}(hG0:qW prog (ez O))
include hG0
def HY (a8:Ja0) (aA:Int) (aB:Bool) (aC:Int) (O:Ja0->Int->Bool->Option Bool):(pJ×Int)->Option ((pJ×Int)⊕(pJ⊕(Int⊕(Unit⊕Bool)))):=fun(aD,aE)=>ite (decide (aE<(((qF.un (qH .part a8 aC)).2.2.2.2.1).length:Int))) (ite (0<=aE/\aE<(((qF.un (qH .part a8 aC)).2.2.2.2.1).length:Int)) ((BB ((qF.un (qH .part a8 aC)).1) ((qH rT ((qF.un (qH .part a8 aC)).2.2.2.2.1) aE).1)).bind λaF=>ite (((!aF)==false)=true->(yY aD ((qH rT ((qF.un (qH .part a8 aC)).2.2.2.2.1) aE).1)).isSome=true) (ite ((((!aF)||(val (yY aD ((qH rT ((qF.un (qH .part a8 aC)).2.2.2.2.1) aE).1))))==false)=true->qG (aA+1)) (ite ((((!aF)||(val (yY aD ((qH rT ((qF.un (qH .part a8 aC)).2.2.2.2.1) aE).1))))==false)=true->(O ((qH rT ((qF.un (qH .part a8 aC)).2.2.2.2.1) aE).2.1) (aA+1) (aB||((((qF.un (qH .part a8 aC)).1)=7)||(((qF.un (qH .part a8 aC)).1)=8)))).isSome=true) (ite (((!aF)||(val (yY aD ((qH rT ((qF.un (qH .part a8 aC)).2.2.2.2.1) aE).1))))||(!(val (O ((qH rT ((qF.un (qH .part a8 aC)).2.2.2.2.1) aE).2.1) (aA+1) (aB||((((qF.un (qH .part a8 aC)).1)=7)||(((qF.un (qH .part a8 aC)).1)=8))))))) (some (.inr (.inr (.inr (.inr (false)))))) (ite ((aD.length+([(qH rT ((qF.un (qH .part a8 aC)).2.2.2.2.1) aE).1]:pJ).length)*16<=140737488355328) (ite (qG (aE+1)) (some (.inl ((aD++([(qH rT ((qF.un (qH .part a8 aC)).2.2.2.2.1) aE).1]:pJ)),(aE+1)))) none) none)) none) none) none) none) (some (.inr (.inl aD)))
def HZ (a8:Ja0) (aA:Int) (aB:Bool) (O:Ja0->Int->Bool->Option Bool):Int->Option (Int⊕(Unit⊕Bool)):=λaC=>ite (decide (aC<(a8.length:Int))) (ite (0<=aC/\aC<(a8.length:Int)) (ite ((((0<aC)&&((qF.un (qH .part a8 aC)).1=1))==true)=true->qG (aC- 1)) (ite ((((0<aC)&&((qF.un (qH .part a8 aC)).1=1))==true)=true->0<=(aC- 1)/\(aC- 1)<(a8.length:Int)) (ite (((0<aC)&&((qF.un (qH .part a8 aC)).1=1))&&((qF.un (qH .part a8 (aC- 1))).1=1)) (some (.inr (.inr (false)))) (ite (decide ((qF.un (qH .part a8 aC)).1=11)) (ite (((decide (8<aA))==false)=true->(vS ((qF.un (qH .part a8 aC)).2.2.1)).isSome=true) (ite (((((((8<aA)||(!(val (vS ((qF.un (qH .part a8 aC)).2.2.1)))))||(!decide ((qF.un (qH .part a8 aC)).2.1=([]:pI))))||(!decide ((qF.un (qH .part a8 aC)).2.2.2.1=([]:pI))))||(0<(((qF.un (qH .part a8 aC)).2.2.2.2.1).length:Int)))==false)=true->qG (aA+1)) (ite (((((((8<aA)||(!(val (vS ((qF.un (qH .part a8 aC)).2.2.1)))))||(!decide ((qF.un (qH .part a8 aC)).2.1=([]:pI))))||(!decide ((qF.un (qH .part a8 aC)).2.2.2.1=([]:pI))))||(0<(((qF.un (qH .part a8 aC)).2.2.2.2.1).length:Int)))==false)=true->(O ((qF.un (qH .part a8 aC)).2.2.2.2.2.1) (aA+1) aB).isSome=true) (ite ((((((8<aA)||(!(val (vS ((qF.un (qH .part a8 aC)).2.2.1)))))||(!decide ((qF.un (qH .part a8 aC)).2.1=([]:pI))))||(!decide ((qF.un (qH .part a8 aC)).2.2.2.1=([]:pI))))||(0<(((qF.un (qH .part a8 aC)).2.2.2.2.1).length:Int)))||(!(val (O ((qF.un (qH .part a8 aC)).2.2.2.2.2.1) (aA+1) aB)))) (some (.inr (.inr (false)))) (ite (qG (aC+1)) (some (.inl (aC+1))) none)) none) none) none) (ite (((((qF.un (qH .part a8 aC)).1)=7)||(((qF.un (qH .part a8 aC)).1)=8))||(((qF.un (qH .part a8 aC)).1)=9)) (ite (((decide (8<aA))==false)=true->(vS ((qF.un (qH .part a8 aC)).2.2.1)).isSome=true) (ite (((((((8<aA)||(!(val (vS ((qF.un (qH .part a8 aC)).2.2.1)))))||(!decide ((qF.un (qH .part a8 aC)).2.1=([]:pI))))||(!decide ((qF.un (qH .part a8 aC)).2.2.2.1=([]:pI))))||(0<(((qF.un (qH .part a8 aC)).2.2.2.2.2.1).length:Int)))||((((qF.un (qH .part a8 aC)).2.2.2.2.1).length:Int)<1))||(20<(((qF.un (qH .part a8 aC)).2.2.2.2.1).length:Int))) (some (.inr (.inr (false)))) (sK (rC (HY a8 aA aB aC O) (([]:pJ),0)) λaG=>(yY aG ([111,116,104,101,114]:pI)).bind λaH=>ite (!aH) (some (.inr (.inr (false)))) (ite (qG (aC+1)) (some (.inl (aC+1))) none))) none) ((T7 (qF.un (qH .part a8 aC)) aB).bind λaI=>ite (!aI) (some (.inr (.inr (false)))) (ite (qG (aC+1)) (some (.inl (aC+1))) none))))) none) none) none) (some (.inr (.inl ())))
def TB (O:Ja0->Int->Bool->Option Bool) (a8:Ja0) (aA:Int) (aB:Bool):Option Bool:=sK (rC (HZ a8 aA aB O) 0) λ_=>some (true)
theorem aEt:qW prog (ez (TB O)):=
 rI (rH (qO tN (qO rX (qO vC (qO uT (qO yK (qO uY (qO AK rG))))))) (qQ T6 (qQ hG0 (qQ dn (qQ Zv (qQ dr (qQ Oi (qQ aDX rE)))))))) func155 166 [(6,none)] rfl λE ⟨a8,aA,aB⟩=>by
  have u0:= @TB.eq_1;have u1:= @HZ.eq_1
  let l1:LE (HZ a8 aA aB O):=⟨λx=>⟨[(0,sv (.list .part) a8),(1,iv aA),(2,bv aB),(7,iv x)],[],0,166,0⟩⟩
  have u2:= @HY.eq_1
  let l2 aC:LE (HY a8 aA aB aC O):=⟨λx=>⟨[(0,sv (.list .part) a8),(1,iv aA),(2,bv aB),(7,iv aC),(8,rs 0 0),(9,(.val (.list .str) x.1,some 1)),(10,iv x.2)],[(0,.cells sM (qF.un (qH .part a8 aC)) []),(1,.grow 9 1 (x.1.length))],2,166,0⟩⟩
  let x1:XE (HZ a8 aA aB O) 0 Unit:=⟨λ_=>⟨[],[],0,166,0⟩⟩
  let x2 aC:XE (HY a8 aA aB aC O) 3 pJ:=⟨λx=>⟨[(0,sv (.list .part) a8),(1,iv aA),(2,bv aB),(7,iv aC),(9,(.val (.list .str) x,some 0))],[(0,.grow 9 1 (x.length))],1,166,0⟩⟩
  exact rK
end
def aEu (p:(Ja0->Int->Bool->Option Bool)):(Ja0->Int->Bool->Option Bool):=TB p
def TC (n:Nat):(Ja0->Int->Bool->Option Bool):=Nat.rec (motive:=λ_=>(Ja0->Int->Bool->Option Bool)) (λ_ _ _=>none) (λ_ p=>aEu p) n
theorem a0c: ∀n:Nat,qW prog (ez (TC n))
 |0=>uX
 |n+1=>have h:=a0c n;aEt h
def TD:Ja0->Int->Bool->Option Bool:=(TC 1000)
@[go_sem] abbrev aEv:Nat×r7:=ez TD
theorem a0d:qW prog aEv:=(a0c 1000)
theorem aMU:TD=(TC 1000):=rfl
def I0 (O:uC):(Int×pR)->Option ((Int×pR)⊕(Unit⊕Bool)):=fun(a8,aA)=>ite (decide (a8<(O.2.2.2.1.length:Int))) (ite (0<=a8/\a8<(O.2.2.2.1.length:Int)) (ite (((sE .str .bool aA ((qH tJ O.2.2.2.1 a8).1))==false)=true->(OT (qH tJ O.2.2.2.1 a8)).isSome=true) (ite ((sE .str .bool aA ((qH tJ O.2.2.2.1 a8).1))||(!(val (OT (qH tJ O.2.2.2.1 a8))))) (some (.inr (.inr (false)))) (ite (qG (a8+1)) (some (.inl ((a8+1),(rL .str .bool ((qH tJ O.2.2.2.1 a8).1) true aA)))) none)) none) none) (some (.inr (.inl ())))
def TE (O:uC):Option Bool:=(RZ O.1).bind λa8=>ite (((!a8)==false)=true->(OS O.2.1).isSome=true) (ite ((((!a8)||(!(((O.2.1.length:Int)<=20)&&(!(val (D8 O.2.1))))))==false)=true->(HU O.2.2.1).isSome=true) (ite ((((!a8)||(!(((O.2.1.length:Int)<=20)&&(!(val (D8 O.2.1))))))||(!(val (HU O.2.2.1))))||(1000<(O.2.2.2.1.length:Int))) (some (false)) (sK (rC (I0 O) (0,([]:pR))) λ_=>some (true))) none) none
abbrev a0e (x:uC):List qK:=[sv wE x]
@[go_sem] def a0f:uC->r8:=λO=>rv [] (TE O) λz=>([bv z],[])
@[go_sem] def aLU O:=rF a0e qU a0f O
@[go_sem] abbrev aEw:Nat×r7:=mE 31 [.v] a0e qU a0f
theorem aEx:qW prog aEw:=
 rI (rH (qO FV (qO rX (qO vC (qO D3 (qO JL (qO E9 (qO D2 (qO MW rG)))))))) (qQ aAJ (qQ Zk (qQ Xb (qQ aEh rE))))) func31 49 [(2,none)] rfl λE O=>by
  have u0:= @TE.eq_1;have u1:= @I0.eq_1
  let l1:LE (I0 O):=⟨λx=>⟨[(3,sv .mp (some 0)),(30,sv (.list tJ) O.2.2.2.1),(31,iv (O.2.2.2.1.length:Int)),(32,iv x.1)],[(0,.map .str .bool x.2)],1,49,0⟩⟩
  let x1:XE (I0 O) 0 Unit:=⟨λ_=>⟨[],[],0,49,0⟩⟩
  exact rK
def G9 (O:pI):Option Unit:=ite (((decide ((O.length:Int)<=4000))==true)=true->(v6 O).isSome=true) (some (())) none
abbrev a0g (x:pI):List qK:=[tv x]
@[go_sem] def a0h:pI->r8:=λO=>rv [] (G9 O) λz=>([bv (((O.length:Int)<=4000)&&(val (v6 O)))],[])
@[go_sem] def aLV O:=rF a0g qU a0h O
@[go_sem] abbrev aEy:Nat×r7:=mE 84 [.v] a0g qU a0h
theorem vh:qW prog aEy:=
 rI (rH (qO rX rG) (qQ aEj rE)) func84 10 [(2,none)] rfl λE O=>by
  have u0:= @G9.eq_1;exact rK
def K6 (O:Ja0):Option Bool:=(TD O 1 false).bind λa8=>ite ((a8==true)=true->(G1 O ([]:pJ)).isSome=true) (ite (((a8&&(((val (G1 O ([]:pJ))).length:Int)<=20))==true)=true->(F8 O ([32]:pI)).isSome=true) (some ((a8&&(((val (G1 O ([]:pJ))).length:Int)<=20))&&(((val (F8 O ([32]:pI))).length:Int)<=4000))) none) none
abbrev a0i (x:Ja0):List qK:=[sv (.list .part) x]
@[go_sem] def a0j:Ja0->r8:=λO=>rv [] (K6 O) λz=>([bv z],[])
@[go_sem] def aLW O:=rF a0i qU a0j O
@[go_sem] abbrev aEz:Nat×r7:=mE 109 [.v] a0i qU a0j
theorem vi:qW prog aEz:=
 rI (rH (qO rX (qO vC rG)) (qQ a0d (qQ Rn (qQ X7 rE)))) func109 17 [(2,none)] rfl λE O=>by
  have u0:= @K6.eq_1;exact rK
def TF (O:Ja0):Option Bool:=(TD O 1 true).bind λa8=>ite ((a8==true)=true->(G1 O ([]:pJ)).isSome=true) (ite (((a8&&(((val (G1 O ([]:pJ))).length:Int)<=20))==true)=true->(F8 O ([32]:pI)).isSome=true) (some ((a8&&(((val (G1 O ([]:pJ))).length:Int)<=20))&&(((val (F8 O ([32]:pI))).length:Int)<=4000))) none) none
abbrev a0k (x:Ja0):List qK:=[sv (.list .part) x]
@[go_sem] def a0l:Ja0->r8:=λO=>rv [] (TF O) λz=>([bv z],[])
@[go_sem] def aLX O:=rF a0k qU a0l O
@[go_sem] abbrev aEA:Nat×r7:=mE 143 [.v] a0k qU a0l
theorem aEB:qW prog aEA:=
 rI (rH (qO rX (qO vC rG)) (qQ a0d (qQ Rn (qQ X7 rE)))) func143 17 [(2,none)] rfl λE O=>by
  have u0:= @TF.eq_1;exact rK
def K7 (O:pI):(Ja2×Int×Int)->Option ((Ja2×Int×Int)⊕((Ja2×Int)⊕(Ja2×Int×Int))):=fun(a8,aA,aB)=>ite (decide (aA<(O.length:Int))) (ite (((decide ((Int.tmod aB 2)=1))==true)=true->0<=aA/\aA<(O.length:Int)) (ite (((Int.tmod aB 2)=1)&&((((qZ O aA)=32)||((qZ O aA)=9))||((qZ O aA)=10))) (ite (qG (aA+1)) (some (.inl (a8,(aA+1),aB))) none) (rA (σ:=(Int×pI×Int×Int)) (ite (decide ((Int.tmod aB 2)=1)) ((OV O aA).bind λaC=>some (aC.1,aC.2.1,aC.2.2.1,aC.2.2.2)) ((OW O aA aB).bind λaD=>some (aD.1,aD.2.1,aD.2.2.1,aD.2.2.2))) fun(aE,aF,aG,aH)=>ite (decide (aE=0)) (some (.inr (.inr (([]:List rD),aA,3)))) (ite (decide (aE=2)) (ite (qG (aB+1)) (ite ((a8.length+([(aE,(aF,(aG,(aH,()))))]:List rD).length)*40<=140737488355328) (some (.inl ((a8++([(aE,(aF,(aG,(aH,()))))]:List rD)),aH,(aB+1)))) none) none) (ite (decide (aE=3)) (ite (qG (aB- 1)) (ite ((a8.length+([(aE,(aF,(aG,(aH,()))))]:List rD).length)*40<=140737488355328) (some (.inl ((a8++([(aE,(aF,(aG,(aH,()))))]:List rD)),aH,(aB- 1)))) none) none) (ite ((a8.length+([(aE,(aF,(aG,(aH,()))))]:List rD).length)*40<=140737488355328) (some (.inl ((a8++([(aE,(aF,(aG,(aH,()))))]:List rD)),aH,aB))) none))))) none) (some (.inr (.inl (a8,aB))))
def OY (O:pI):Option (Ja2×Int×Int):=ite (decide (4000<(O.length:Int))) (some (([]:List rD),4000,6)) (sK (rC (K7 O) (([]:List rD),0,0)) fun(a8,aA)=>ite (decide (0<aA)) (some (([]:List rD),(O.length:Int),3)) (some (a8,0,0)))
abbrev a0m (x:pI):List qK:=[tv x]
@[go_sem] def a0n:pI->r8:=λO=>rv [] (OY O) λz=>([(.val (.list sN) (z.1),some 0),iv (z.2.1),iv (z.2.2)],[.grow 228 4 ((z.1).length)])
@[go_sem] def aLY O:=rF a0m qU a0n O
@[go_sem] abbrev aEC:Nat×r7:=mE 151 [.v] a0m qU a0n
theorem aED:qW prog aEC:=
 rI (rH (qO tN (qO rX (qO di (qO D4 rG)))) (qQ aBg (qQ aEl (qQ aEn rE)))) func151 62 [(2,none),(3,none),(4,none)] rfl λE O=>by
  have u0:= @OY.eq_1;have u1:= @K7.eq_1
  let l1:LE (K7 O):=⟨λx=>⟨[(0,tv O),(5,(.val (.list sN) x.1,some 0)),(6,iv x.2.1),(7,iv x.2.2)],[(0,.grow 228 4 (x.1.length))],1,62,0⟩⟩
  let j1 a8 aA aB:JE 30 (Int×pI×Int×Int):=⟨λx=>⟨[(0,tv O),(5,(.val (.list sN) a8,some 0)),(6,iv aA),(7,iv aB),(9,rs 1 0)],[(0,.grow 228 4 (a8.length)),(1,.cells sN (x.1,(x.2.1,(x.2.2.1,(x.2.2.2,())))) [])],2,62,0⟩⟩
  let x1:XE (K7 O) 0 (Ja2×Int):=⟨λx=>⟨[(0,tv O),(5,(.val (.list sN) x.1,some 0)),(7,iv x.2)],[(0,.grow 228 4 (x.1.length))],1,62,0⟩⟩
  exact rK
def TH (O:pI) (a8:Bool):Option (Int×pI×Int):=ite (0<=(0:Int)/\0<(O.length:Int)) (sK (σ:=(Int×Int)) (ite (decide ((qZ O 0)=123)) (ite (0<=(0:Int)/\(0:Int)<=1/\1<=(O.length:Int)) (some (.inr (2,(s8 O 0 1),1))) none) (ite (decide ((qZ O 0)=125)) (ite (0<=(0:Int)/\(0:Int)<=1/\1<=(O.length:Int)) (some (.inr (3,(s8 O 0 1),1))) none) (ite (a8&&((qZ O 0)=44)) (ite (0<=(0:Int)/\(0:Int)<=1/\1<=(O.length:Int)) (some (.inr (8,(s8 O 0 1),1))) none) (ite a8 ((SJ O).bind λaA=>some (.inl (9,aA))) (ite (decide ((qZ O 0)=35)) (ite (0<=(0:Int)/\(0:Int)<=1/\1<=(O.length:Int)) (some (.inr (4,(s8 O 0 1),1))) none) (ite (decide ((qZ O 0)=60)) ((TA O).bind λaB=>some (.inr (aB.1,aB.2.1,aB.2.2))) ((O2 O).bind λaC=>some (.inl (1,aC))))))))) fun(aD,aE)=>ite (decide (aE=0)) (some (0,([]:pI),0)) (ite (0<=(0:Int)/\0<=aE/\aE<=(O.length:Int)) (some (aD,(s8 O 0 aE),aE)) none)) none
abbrev a0G (x:(pI×Bool)):List qK:=[tv x.1,bv x.2]
@[go_sem] def a0H:(pI×Bool)->r8:=fun(O,a8)=>rv [] (TH O a8) λz=>([iv (z.1),tv (z.2.1),iv (z.2.2)],[])
@[go_sem] def aL5 O a8:=rF a0G qU a0H (O,a8)
@[go_sem] abbrev aEO:Nat×r7:=mE 192 [.v,.v] a0G qU a0H
theorem aEP:qW prog aEO:=
 rI (rH (qO rX rG) (qQ aCR (qQ aEq (qQ Uy rE)))) func192 54 [(4,none),(5,none),(6,none)] rfl λE ⟨O,a8⟩=>by
  have u0:= @TH.eq_1
  let j1:JE 0 (Int×Int):=⟨λx=>⟨[(0,tv O),(4,iv x.1),(6,iv x.2)],[],0,54,0⟩⟩
  exact rK
attribute [irreducible] TB TD TE G9 K6 TF OY TH
end
noncomputable section
def D9 (O:Int) (a8:pI):Option Bool:=ite (decide (O=9)) ((AL a8).bind λaA=>some (aA)) ((G6 a8 ([61]:pI)).bind λaB=>ite ((((NC a8)==false)&&(aB.2==true))=true->(OX aB.1).isSome=true) (some ((NC a8)||(aB.2&&(val (OX aB.1))))) none)
abbrev a0o (x:(Int×pI)):List qK:=[iv x.1,tv x.2]
@[go_sem] def a0p:(Int×pI)->r8:=fun(O,a8)=>rv [] (D9 O a8) λz=>([bv z],[])
@[go_sem] def aLZ O a8:=rF a0o qU a0p (O,a8)
@[go_sem] abbrev aEE:Nat×r7:=mE 292 [.v,.v] a0o qU a0p
theorem vj:qW prog aEE:=
 rI (rH rG (qQ WX (qQ ul (qQ aBO (qQ aEs rE))))) func292 25 [(4,none)] rfl λE ⟨O,a8⟩=>by
  have u0:= @D9.eq_1;exact rK
def OZ (O:pI) (a8:Int):Option Bool:=(D9 a8 O).bind λaA=>some (aA)
abbrev a0q (x:(pI×Int)):List qK:=[tv x.1,rs 0 0]
abbrev a0r (x:(pI×Int)):List qP:=[.cells (.int .i64) x.2 []]
@[go_sem] def a0s:(pI×Int)->r8:=fun(O,a8)=>rv [] (OZ O a8) λz=>([bv z],[.cells (.int .i64) a8 []])
@[go_sem] def aL0 O a8:=rF a0q a0r a0s (O,a8)
@[go_sem] abbrev aEF:Nat×r7:=mE 293 [.v,.p (.int .i64) []] a0q a0r a0s [] [0]
theorem aEG:qW prog aEF:=
 rI (rH (qO tN rG) (qQ vj rE)) func293 7 [(3,none)] rfl λE ⟨O,a8⟩=>by
  have u0:= @OZ.eq_1;exact rK
abbrev a0I (x:(rP×Int×Bool×pR)):List qK:=[sv (.pair .mp .unit) (some 0,()),sv sM x.1,iv x.2.1,bv x.2.2.1]
abbrev a0J (x:(rP×Int×Bool×pR)):List qP:=[.map .str .bool x.2.2.2]
@[go_sem] def a0K (O:pR->rP->Int->Bool->Option (Bool×pR)):(rP×Int×Bool×pR)->r8:=fun(a8,aA,aB,aC)=>rv [] (O aC a8 aA aB) λz=>([bv (z.1)],[.map .str .bool (z.2)])
@[go_sem] def aL6 (O:pR->rP->Int->Bool->Option (Bool×pR)) a8 aA aB aC:=rF a0I a0J (a0K O) (a8,aA,aB,aC)
@[go_sem] abbrev vo (F:pR->rP->Int->Bool->Option (Bool×pR)):Nat×r7:=mE 261 [.s,.v,.v,.v] a0I a0J (a0K F)
abbrev a0L (x:(Ja0×Int×Bool×pR)):List qK:=[sv (.pair .mp .unit) (some 0,()),sv (.list .part) x.1,iv x.2.1,bv x.2.2.1]
abbrev a0M (x:(Ja0×Int×Bool×pR)):List qP:=[.map .str .bool x.2.2.2]
@[go_sem] def a0N (O:pR->Ja0->Int->Bool->Option (Bool×pR)):(Ja0×Int×Bool×pR)->r8:=fun(a8,aA,aB,aC)=>rv [] (O aC a8 aA aB) λz=>([bv (z.1)],[.map .str .bool (z.2)])
@[go_sem] def aL7 (O:pR->Ja0->Int->Bool->Option (Bool×pR)) a8 aA aB aC:=rF a0L a0M (a0N O) (a8,aA,aB,aC)
@[go_sem] abbrev fc (F:pR->Ja0->Int->Bool->Option (Bool×pR)):Nat×r7:=mE 205 [.s,.v,.v,.v] a0L a0M (a0N F)
section
variable {O:pR->rP->Int->Bool->Option (Bool×pR)}{a8:pR->Ja0->Int->Bool->Option (Bool×pR)}(hG0:qW prog (vo O)) (hG1:qW prog (fc a8))
include hG0 hG1
def I4 (aA:rP) (aB:Int) (aC:Bool) (a8:pR->Ja0->Int->Bool->Option (Bool×pR)):(Int×pR×pR)->Option ((Int×pR×pR)⊕((pR×pR)⊕(Bool×pR))):=fun(aD,aE,aF)=>ite (decide (aD<(aA.2.2.2.2.1.length:Int))) (ite (0<=aD/\aD<(aA.2.2.2.2.1.length:Int)) ((D9 aA.1 ((qH rT aA.2.2.2.2.1 aD).1)).bind λaG=>ite (((!aG)||(sE .str .bool aF ((qH rT aA.2.2.2.2.1 aD).1)))==false) (ite ((((!aG)||(sE .str .bool aF ((qH rT aA.2.2.2.2.1 aD).1)))==false)=true->(a8 aE ((qH rT aA.2.2.2.2.1 aD).2.1) aB (aC||(!decide (aA.1=9)))).isSome=true) (ite (((!aG)||(sE .str .bool aF ((qH rT aA.2.2.2.2.1 aD).1)))||(!((val (a8 aE ((qH rT aA.2.2.2.2.1 aD).2.1) aB (aC||(!decide (aA.1=9))))).1))) (some (.inr (.inr (false,(val (a8 aE ((qH rT aA.2.2.2.2.1 aD).2.1) aB (aC||(!decide (aA.1=9))))).2)))) (ite (qG (aD+1)) (some (.inl ((aD+1),(val (a8 aE ((qH rT aA.2.2.2.2.1 aD).2.1) aB (aC||(!decide (aA.1=9))))).2,(rL .str .bool ((qH rT aA.2.2.2.2.1 aD).1) true aF)))) none)) none) (ite true (some (.inr (.inr (false,aE)))) (ite (qG (aD+1)) (some (.inl ((aD+1),aE,(rL .str .bool ((qH rT aA.2.2.2.2.1 aD).1) true aF)))) none))) none) (some (.inr (.inl (aE,aF))))
def K9 (O:pR->rP->Int->Bool->Option (Bool×pR)) (a8:pR->Ja0->Int->Bool->Option (Bool×pR)) (aH:pR) (aA:rP) (aB:Int) (aC:Bool):Option (Bool×pR):=sK (rC (I4 aA aB aC a8) (0,aH,([]:pR))) fun(aI,aJ)=>some ((((aA.2.2.2.2.1.length:Int)<=20)&&(sE .str .bool aJ ([111,116,104,101,114]:pI))),aI)
theorem aEQ:qW prog (vo (K9 O a8)):=
 rI (rH (qO tN (qO FV (qO rX (qO MW (qO uT (qO yK (qO uY (qO AK (qO tx rG))))))))) (qQ vj (qQ hG1 rE))) func261 58 [(8,none)] rfl λE ⟨aA,aB,aC,aH⟩=>by
  have u0:= @K9.eq_1;have u1:= @I4.eq_1
  let l1:LE (I4 aA aB aC a8):=⟨λx=>⟨[(2,iv aB),(3,bv aC),(4,rs 1 0),(5,rs 2 0),(9,sv .mp (some 3)),(14,sv (.list rT) aA.2.2.2.2.1),(15,iv (aA.2.2.2.2.1.length:Int)),(16,iv x.1)],[(0,.map .str .bool x.2.1),(1,.cells (.pair .mp .unit) ((some 0),()) []),(2,.cells sM aA []),(3,.map .str .bool x.2.2)],4,58,1⟩⟩
  let x1:XE (I4 aA aB aC a8) 0 (pR×pR):=⟨λx=>⟨[(5,rs 1 0),(9,sv .mp (some 2))],[(0,.map .str .bool x.1),(1,.cells sM aA []),(2,.map .str .bool x.2)],3,58,1⟩⟩
  let s1:pX:=[1000000024,1000000036]
  exact rK
def I5 (aK:Ja0) (aL:Int) (aM:Bool) (O:pR->rP->Int->Bool->Option (Bool×pR)) (a8:pR->Ja0->Int->Bool->Option (Bool×pR)):(Int×pR)->Option ((Int×pR)⊕(pR⊕(Bool×pR))):=fun(aN,aO)=>ite (decide (aN<(aK.length:Int))) (ite (0<=aN/\aN<(aK.length:Int)) ((SK (qF.un (qH .part aK aN))).bind λaP=>ite (((((!aP)||(((qF.un (qH .part aK aN)).1=10)&&(!aM)))==false)&&(((0<aN)&&((qF.un (qH .part aK aN)).1=1))==true))=true->qG (aN- 1)) (ite (((((!aP)||(((qF.un (qH .part aK aN)).1=10)&&(!aM)))==false)&&(((0<aN)&&((qF.un (qH .part aK aN)).1=1))==true))=true->0<=(aN- 1)/\(aN- 1)<(aK.length:Int)) (ite (((!aP)||(((qF.un (qH .part aK aN)).1=10)&&(!aM)))||(((0<aN)&&((qF.un (qH .part aK aN)).1=1))&&((qF.un (qH .part aK (aN- 1))).1=1))) (some (.inr (.inr (false,aO)))) (ite (((decide ((qF.un (qH .part aK aN)).1=11))==true)&&((decide (8<=aL))==false)) (ite ((((decide ((qF.un (qH .part aK aN)).1=11))==true)&&((decide (8<=aL))==false))=true->qG (aL+1)) (ite ((((decide ((qF.un (qH .part aK aN)).1=11))==true)&&((decide (8<=aL))==false))=true->(a8 aO ((qF.un (qH .part aK aN)).2.2.2.2.2.1) (aL+1) aM).isSome=true) (ite (((qF.un (qH .part aK aN)).1=11)&&((8<=aL)||(!((val (a8 aO ((qF.un (qH .part aK aN)).2.2.2.2.2.1) (aL+1) aM)).1)))) (some (.inr (.inr (false,(val (a8 aO ((qF.un (qH .part aK aN)).2.2.2.2.2.1) (aL+1) aM)).2)))) (ite ((((7<=((qF.un (qH .part aK aN)).1))&&(((qF.un (qH .part aK aN)).1)<=9))==true)&&((decide (8<=aL))==false)) (ite (((((7<=((qF.un (qH .part aK aN)).1))&&(((qF.un (qH .part aK aN)).1)<=9))==true)&&((decide (8<=aL))==false))=true->qG (aL+1)) (ite (((((7<=((qF.un (qH .part aK aN)).1))&&(((qF.un (qH .part aK aN)).1)<=9))==true)&&((decide (8<=aL))==false))=true->(O ((val (a8 aO ((qF.un (qH .part aK aN)).2.2.2.2.2.1) (aL+1) aM)).2) (qF.un (qH .part aK aN)) (aL+1) aM).isSome=true) (ite (((7<=((qF.un (qH .part aK aN)).1))&&(((qF.un (qH .part aK aN)).1)<=9))&&((8<=aL)||(!((val (O ((val (a8 aO ((qF.un (qH .part aK aN)).2.2.2.2.2.1) (aL+1) aM)).2) (qF.un (qH .part aK aN)) (aL+1) aM)).1)))) (some (.inr (.inr (false,(val (O ((val (a8 aO ((qF.un (qH .part aK aN)).2.2.2.2.2.1) (aL+1) aM)).2) (qF.un (qH .part aK aN)) (aL+1) aM)).2)))) (ite ((!decide ((qF.un (qH .part aK aN)).1=11))&&(!decide ((qF.un (qH .part aK aN)).2.2.1=([]:pI)))) (ite (qG (aN+1)) (some (.inl ((aN+1),(rL .str .bool ((qF.un (qH .part aK aN)).2.2.1) true ((val (O ((val (a8 aO ((qF.un (qH .part aK aN)).2.2.2.2.2.1) (aL+1) aM)).2) (qF.un (qH .part aK aN)) (aL+1) aM)).2))))) none) (ite (qG (aN+1)) (some (.inl ((aN+1),(val (O ((val (a8 aO ((qF.un (qH .part aK aN)).2.2.2.2.2.1) (aL+1) aM)).2) (qF.un (qH .part aK aN)) (aL+1) aM)).2))) none))) none) none) (ite (((7<=((qF.un (qH .part aK aN)).1))&&(((qF.un (qH .part aK aN)).1)<=9))&&true) (some (.inr (.inr (false,(val (a8 aO ((qF.un (qH .part aK aN)).2.2.2.2.2.1) (aL+1) aM)).2)))) (ite ((!decide ((qF.un (qH .part aK aN)).1=11))&&(!decide ((qF.un (qH .part aK aN)).2.2.1=([]:pI)))) (ite (qG (aN+1)) (some (.inl ((aN+1),(rL .str .bool ((qF.un (qH .part aK aN)).2.2.1) true ((val (a8 aO ((qF.un (qH .part aK aN)).2.2.2.2.2.1) (aL+1) aM)).2))))) none) (ite (qG (aN+1)) (some (.inl ((aN+1),(val (a8 aO ((qF.un (qH .part aK aN)).2.2.2.2.2.1) (aL+1) aM)).2))) none))))) none) none) (ite (((qF.un (qH .part aK aN)).1=11)&&true) (some (.inr (.inr (false,aO)))) (ite ((((7<=((qF.un (qH .part aK aN)).1))&&(((qF.un (qH .part aK aN)).1)<=9))==true)&&((decide (8<=aL))==false)) (ite (((((7<=((qF.un (qH .part aK aN)).1))&&(((qF.un (qH .part aK aN)).1)<=9))==true)&&((decide (8<=aL))==false))=true->qG (aL+1)) (ite (((((7<=((qF.un (qH .part aK aN)).1))&&(((qF.un (qH .part aK aN)).1)<=9))==true)&&((decide (8<=aL))==false))=true->(O aO (qF.un (qH .part aK aN)) (aL+1) aM).isSome=true) (ite (((7<=((qF.un (qH .part aK aN)).1))&&(((qF.un (qH .part aK aN)).1)<=9))&&((8<=aL)||(!((val (O aO (qF.un (qH .part aK aN)) (aL+1) aM)).1)))) (some (.inr (.inr (false,(val (O aO (qF.un (qH .part aK aN)) (aL+1) aM)).2)))) (ite ((!decide ((qF.un (qH .part aK aN)).1=11))&&(!decide ((qF.un (qH .part aK aN)).2.2.1=([]:pI)))) (ite (qG (aN+1)) (some (.inl ((aN+1),(rL .str .bool ((qF.un (qH .part aK aN)).2.2.1) true ((val (O aO (qF.un (qH .part aK aN)) (aL+1) aM)).2))))) none) (ite (qG (aN+1)) (some (.inl ((aN+1),(val (O aO (qF.un (qH .part aK aN)) (aL+1) aM)).2))) none))) none) none) (ite (((7<=((qF.un (qH .part aK aN)).1))&&(((qF.un (qH .part aK aN)).1)<=9))&&true) (some (.inr (.inr (false,aO)))) (ite ((!decide ((qF.un (qH .part aK aN)).1=11))&&(!decide ((qF.un (qH .part aK aN)).2.2.1=([]:pI)))) (ite (qG (aN+1)) (some (.inl ((aN+1),(rL .str .bool ((qF.un (qH .part aK aN)).2.2.1) true aO)))) none) (ite (qG (aN+1)) (some (.inl ((aN+1),aO))) none))))))) none) none) none) (some (.inr (.inl aO)))
def TJ (O:pR->rP->Int->Bool->Option (Bool×pR)) (a8:pR->Ja0->Int->Bool->Option (Bool×pR)) (aQ:pR) (aK:Ja0) (aL:Int) (aM:Bool):Option (Bool×pR):=sK (rC (I5 aK aL aM O a8) (0,aQ)) λaR=>some (true,aR)
theorem aER:qW prog (fc (TJ O a8)):=
 rI (rH (qO tN (qO FV (qO rX (qO MW (qO uT (qO uY (qO tx rG))))))) (qQ aCY (qQ hG1 (qQ F4 (qQ hG0 rE))))) func205 94 [(8,none)] rfl λE ⟨aK,aL,aM,aQ⟩=>by
  have u0:= @TJ.eq_1;have u1:= @I5.eq_1
  let l1:LE (I5 aK aL aM O a8):=⟨λx=>⟨[(1,sv (.list .part) aK),(2,iv aL),(3,bv aM),(4,rs 1 0),(11,sv (.list .part) aK),(12,iv (aK.length:Int)),(13,iv x.1)],[(0,.map .str .bool x.2),(1,.cells (.pair .mp .unit) ((some 0),()) [])],2,94,1⟩⟩
  let x1:XE (I5 aK aL aM O a8) 0 pR:=⟨λx=>⟨[],[(0,.map .str .bool x)],1,94,1⟩⟩
  let s1:pX:=[1000000012]
  exact rK
end
def aES (p:(pR->rP->Int->Bool->Option (Bool×pR))×(pR->Ja0->Int->Bool->Option (Bool×pR))):(pR->rP->Int->Bool->Option (Bool×pR))×(pR->Ja0->Int->Bool->Option (Bool×pR)):=(K9 p.1 p.2,TJ p.1 p.2)
def F9 (n:Nat):(pR->rP->Int->Bool->Option (Bool×pR))×(pR->Ja0->Int->Bool->Option (Bool×pR)):=Nat.rec (motive:=λ_=>(pR->rP->Int->Bool->Option (Bool×pR))×(pR->Ja0->Int->Bool->Option (Bool×pR))) ((λ_ _ _ _=>none),(λ_ _ _ _=>none)) (λ_ p=>aES p) n
theorem a0O: ∀n:Nat,qW prog (vo (F9 n).1)/\qW prog (fc (F9 n).2)
 |0=>⟨uX,uX⟩
 |n+1=>have h:=a0O n;⟨aEQ h.1 h.2,aER h.1 h.2⟩
def XA:pR->Ja0->Int->Bool->Option (Bool×pR):=(F9 1000).2
@[go_sem] abbrev aET:Nat×r7:=fc XA
theorem aEU:qW prog aET:=(a0O 1000).2
theorem aMV:XA=(F9 1000).2:=rfl
def P2 (O:Ja0):Option (pI×Int):=(K6 O).bind λa8=>ite (!a8) (some (([]:pI),1)) ((F8 O ([32]:pI)).bind λaA=>some (aA,0))
abbrev a0P (x:Ja0):List qK:=[sv (.list .part) x]
@[go_sem] def a0Q:Ja0->r8:=λO=>rv [] (P2 O) λz=>([tv (z.1),iv (z.2)],[])
@[go_sem] def aL8 O:=rF a0P qU a0Q O
@[go_sem] abbrev aEV:Nat×r7:=mE 69 [.v] a0P qU a0Q
theorem a0R:qW prog aEV:=
 rI (rH rG (qQ vi (qQ X7 rE))) func69 9 [(2,none),(3,none)] rfl λE O=>by
  have u0:= @P2.eq_1;exact rK
attribute [irreducible] D9 OZ K9 TJ XA P2
end
noncomputable section
def EH (O:pI) (a8:Ja2) (aA:Int) (aB:pQ) (aC:Int) (aD:pR):Option (pI×Int×Int×Int):=(vQ O a8 aA aB aD).bind λaE=>ite ((!decide (aE=9))==false) (ite (((!decide (aE=9))==false)=true->0<=aA/\aA<(a8.length:Int)) (ite (((!decide (aE=9))==false)=true->(OZ ((qH sN a8 aA).2.1) aC).isSome=true) (ite ((!decide (aE=9))||(!(val (OZ ((qH sN a8 aA).2.1) aC)))) ((vR O a8 aA aB 3 aD).bind λaF=>some (([]:pI),aA,aF.1,aF.2)) ((sT O a8 aA aB 9 aD).bind λaG=>some (aG.1,aG.2.1,aG.2.2.1,aG.2.2.2))) none) none) (ite true ((vR O a8 aA aB 3 aD).bind λaH=>some (([]:pI),aA,aH.1,aH.2)) ((sT O a8 aA aB 9 aD).bind λaI=>some (aI.1,aI.2.1,aI.2.2.1,aI.2.2.2)))
abbrev a0S (x:(pI×Ja2×Int×pQ×Int×pR)):List qK:=[rs 0 0,sv .clo (some (293,[(1,0)]))]
abbrev a0T (x:(pI×Ja2×Int×pQ×Int×pR)):List qP:=[.cells tG (x.1,(x.2.1,(x.2.2.1,((some 2),x.2.2.2.1)))) [],.cells (.int .i64) x.2.2.2.2.1 [],.map .str .bool x.2.2.2.2.2]
@[go_sem] def a0U:(pI×Ja2×Int×pQ×Int×pR)->r8:=fun(O,a8,aA,aB,aC,aD)=>rv [] (EH O a8 aA aB aC aD) λz=>([tv (z.1)],[.cells tG (O,(a8,(z.2.1,((some 2),(z.2.2.1,(z.2.2.2,())))))) [],.cells (.int .i64) aC [],.map .str .bool aD])
@[go_sem] def aL9 O a8 aA aB aC aD:=rF a0S a0T a0U (O,a8,aA,aB,aC,aD)
@[go_sem] abbrev aEW:Nat×r7:=mE 254 [.p tG [],.f [((.int .i64),[])]] a0S a0T a0U [(0,3,.m)] [1,2]
def aEX:qW prog aEW:=
 rI (rH (qO tN (qO rX (qO zY (qO zD (qO AJ rG))))) (qQ C2 (qQ aEG (qQ EC (qQ ED rE))))) func254 28 [(4,none)] rfl λE ⟨O,a8,aA,aB,aC,aD⟩=>by
  have u0:= @EH.eq_1
  let s1:pX:=[1000000006]
  exact rK
def KA (O:pI):(Ja2×Int×Bool×(List Bool)×Nat)->Option ((Ja2×Int×Bool×(List Bool)×Nat)⊕((Ja2×(List Bool)×Nat)⊕(Ja2×Int×Int))):=fun(a8,aA,aB,aC,aD)=>ite (decide (aA<(O.length:Int))) (ite ((aB==true)=true->0<=aA/\aA<(O.length:Int)) (ite (((aB==true)&&((decide ((qZ O aA)=32))==false))=true->0<=aA/\aA<(O.length:Int)) (ite (((aB==true)&&((((qZ O aA)=32)||((qZ O aA)=9))==false))=true->0<=aA/\aA<(O.length:Int)) (ite (aB&&((((qZ O aA)=32)||((qZ O aA)=9))||((qZ O aA)=10))) (ite (qG (aA+1)) (some (.inl (a8,(aA+1),aB,aC,aD))) none) (ite (0<=aA/\aA<=(O.length:Int)/\(O.length:Int)<=(O.length:Int)) ((TH (s8 O aA (O.length:Int)) aB).bind λaE=>sK (σ:=(Bool×(List Bool)×Nat)) (rA (σ:=Bool) (ite (decide (aE.1=0)) (some (decide (aE.1=0))) (some ((aE.1=3)&&(((aD:Nat):Int)=0)))) λaF=>ite aF (some (.inr (.inr (.inr (([]:List rD),aA,3))))) (ite (decide (aE.1=2)) (ite ((aD+([aB]:List Bool).length)*1<=140737488355328) (some (.inl ((!aB),(aC++([aB]:List Bool)),((aC++([aB]:List Bool)).length)))) none) (ite (decide (aE.1=3)) (ite (qG (((aD:Nat):Int)- 1)) (ite (0<=(((aD:Nat):Int)- 1)/\(((aD:Nat):Int)- 1)<((aD:Nat):Int)) (ite (qG (((aD:Nat):Int)- 1)) (ite (0<=(((aD:Nat):Int)- 1)/\(((aD:Nat):Int)- 1)<=((aD:Nat):Int)) (some (.inl ((qH .bool aC (((aD:Nat):Int)- 1)),(List.take (Int.toNat (((aD:Nat):Int)- 1)) aC),(Int.toNat (((aD:Nat):Int)- 1))))) none) none) none) none) (some (.inl (aB,aC,aD)))))) fun(aG,aH,aI)=>ite (qG (aA+aE.2.2)) (ite ((a8.length+([(aE.1,(aE.2.1,(aA,((aA+aE.2.2),()))))]:List rD).length)*40<=140737488355328) (ite (qG (aA+aE.2.2)) (some (.inl ((a8++([(aE.1,(aE.2.1,(aA,((aA+aE.2.2),()))))]:List rD)),(aA+aE.2.2),aG,aH,aI))) none) none) none) none)) none) none) none) (some (.inr (.inl (a8,aC,aD))))
def P3 (O:pI):Option (Ja2×Int×Int):=ite (decide (4000<(O.length:Int))) (some (([]:List rD),4000,6)) (sK (rC (KA O) (([]:List rD),0,false,([]:List Bool),0)) fun(a8,aA,aB)=>ite (decide (0<((aB:Nat):Int))) (some (([]:List rD),(O.length:Int),3)) (some (a8,0,0)))
abbrev a0V (x:pI):List qK:=[tv x]
@[go_sem] def a0W:pI->r8:=λO=>rv [] (P3 O) λz=>([(.val (.list sN) (z.1),some 0),iv (z.2.1),iv (z.2.2)],[.grow 215 4 ((z.1).length)])
@[go_sem] def aMa O:=rF a0V qU a0W O
@[go_sem] abbrev aEY:Nat×r7:=mE 144 [.v] a0V qU a0W
def aEZ:qW prog aEY:=
 rI (rH (qO FV (qO rX (qO zY (qO aAe (qO AJ rG))))) (qQ aEP rE)) func144 100 [(2,none),(3,none),(4,none)] rfl λE O=>by
  have u0:= @P3.eq_1;have u1:= @KA.eq_1
  let l1:LE (KA O):=⟨λx=>⟨[(0,tv O),(2,(.val (.list sN) x.1,some 0)),(3,iv x.2.1),(5,(.own 1 x.2.2.2.2,none)),(6,bv x.2.2.1)],[(0,.grow 215 4 (x.1.length)),(1,.row 4 .bool x.2.2.2.1 x.2.2.2.2)],2,100,0⟩⟩
  let j1 a8 aA (aB:(Int×pI×Int)):JE 2 (Bool×(List Bool)×Nat):=⟨λx=>⟨[(0,tv O),(2,(.val (.list sN) a8,some 0)),(3,iv aA),(5,(.own 1 x.2.2,none)),(6,bv x.1),(7,iv aB.1),(8,tv aB.2.1),(9,iv aB.2.2)],[(0,.grow 215 4 (a8.length)),(1,.row 4 .bool x.2.1 x.2.2)],2,100,0⟩⟩
  let j2 a8 aA aC aD (aB:(Int×pI×Int)) aE:JE 47 Bool:=⟨λx=>⟨[(0,tv O),(2,(.val (.list sN) a8,some 0)),(3,iv aA),(5,(.own 1 aC,none)),(6,bv aD),(7,iv aB.1),(8,tv aB.2.1),(9,iv aB.2.2),(47,bv x)],[(0,.grow 215 4 (a8.length)),(1,.row 4 .bool aE aC)],2,100,0⟩⟩
  let x1:XE (KA O) 0 (Ja2×(List Bool)×Nat):=⟨λx=>⟨[(0,tv O),(2,(.val (.list sN) x.1,some 0)),(5,(.own 1 x.2.2,none))],[(0,.grow 215 4 (x.1.length)),(1,.row 4 .bool x.2.1 x.2.2)],2,100,0⟩⟩
  exact rK
def P4 (O:pJ):Int->Option (Int⊕(Unit⊕Bool)):=λa8=>ite (decide (a8<(O.length:Int))) (ite (0<=a8/\a8<(O.length:Int)) ((G9 (qH .str O a8)).bind λaA=>ite (!((((qH .str O a8).length:Int)<=4000)&&(val (v6 (qH .str O a8))))) (some (.inr (.inr (false)))) (ite (qG (a8+1)) (some (.inl (a8+1))) none)) none) (some (.inr (.inl ())))
def C6 (O:pJ):Option Bool:=sK (rC (P4 O) 0) λ_=>some (decide ((O.length:Int)<=20))
abbrev a0X (x:pJ):List qK:=[sv (.list .str) x]
@[go_sem] def a0Y:pJ->r8:=λO=>rv [] (C6 O) λz=>([bv z],[])
@[go_sem] def aMb O:=rF a0X qU a0Y O
@[go_sem] abbrev aE0:Nat×r7:=mE 82 [.v] a0X qU a0Y
def a0Z:qW prog aE0:=
 rI (rH (qO rX (qO vC rG)) (qQ vh rE)) func82 19 [(2,none)] rfl λE O=>by
  have u0:= @C6.eq_1;have u1:= @P4.eq_1
  let l1:LE (P4 O):=⟨λx=>⟨[(0,sv (.list .str) O),(3,iv x)],[],0,19,0⟩⟩
  let x1:XE (P4 O) 0 Unit:=⟨λ_=>⟨[(0,sv (.list .str) O)],[],0,19,0⟩⟩
  exact rK
def P5 (O:(List wT)):Int->Option (Int⊕(Unit⊕Bool)):=λa8=>ite (decide (a8<(O.length:Int))) (ite (0<=a8/\a8<(O.length:Int)) ((N3 ((qH sP O a8).1)).bind λaA=>ite (((!aA)==false)=true->0<=a8/\a8<(O.length:Int)) (ite (((!aA)==false)=true->(G9 ((qH sP O a8).2.1)).isSome=true) (ite (((((!aA)||(!(((((qH sP O a8).2.1).length:Int)<=4000)&&(val (v6 ((qH sP O a8).2.1))))))==false)&&((decide (0<a8))==true))=true->0<=a8/\a8<(O.length:Int)) (ite (((((!aA)||(!(((((qH sP O a8).2.1).length:Int)<=4000)&&(val (v6 ((qH sP O a8).2.1))))))==false)&&((decide (0<a8))==true))=true->qG (a8- 1)) (ite (((((!aA)||(!(((((qH sP O a8).2.1).length:Int)<=4000)&&(val (v6 ((qH sP O a8).2.1))))))==false)&&((decide (0<a8))==true))=true->0<=(a8- 1)/\(a8- 1)<(O.length:Int)) (ite (((!aA)||(!(((((qH sP O a8).2.1).length:Int)<=4000)&&(val (v6 ((qH sP O a8).2.1))))))||((0<a8)&&(Op.bytesLess (qH sP O a8).1 (qH sP O (a8- 1)).1||decide ((qH sP O a8).1=(qH sP O (a8- 1)).1)))) (some (.inr (.inr (false)))) (ite (qG (a8+1)) (some (.inl (a8+1))) none)) none) none) none) none) none) none) (some (.inr (.inl ())))
def FA (O:(List wT)):Option Bool:=sK (rC (P5 O) 0) λ_=>some (decide ((O.length:Int)<=20))
abbrev a00 (x:(List wT)):List qK:=[sv (.list sP) x]
@[go_sem] def a01:(List wT)->r8:=λO=>rv [] (FA O) λz=>([bv z],[])
@[go_sem] def aMc O:=rF a00 qU a01 O
@[go_sem] abbrev aE1:Nat×r7:=mE 83 [.v] a00 qU a01
def a02:qW prog aE1:=
 rI (rH (qO rX (qO D3 (qO MR rG))) (qQ Mt (qQ vh rE))) func83 47 [(2,none)] rfl λE O=>by
  have u0:= @FA.eq_1;have u1:= @P5.eq_1
  let l1:LE (P5 O):=⟨λx=>⟨[(0,sv (.list sP) O),(3,iv x)],[],0,47,0⟩⟩
  let x1:XE (P5 O) 0 Unit:=⟨λ_=>⟨[(0,sv (.list sP) O)],[],0,47,0⟩⟩
  exact rK
def TK (O:Ja0):Option (Ja0×Int):=(K6 O).bind λa8=>ite (!a8) (some (([]:List qF),1)) ((WT O).bind λaA=>some (aA,0))
abbrev a03 (x:Ja0):List qK:=[sv (.list .part) x]
@[go_sem] def a04:Ja0->r8:=λO=>rv [] (TK O) λz=>([(.val (.list .part) (z.1),some 0),iv (z.2)],[.grow 183 6 ((z.1).length)])
@[go_sem] def aMd O:=rF a03 qU a04 O
@[go_sem] abbrev aE2:Nat×r7:=mE 102 [.v] a03 qU a04
def aE3:qW prog aE2:=
 rI (rH (qO uT rG) (qQ vi (qQ aCm rE))) func102 9 [(2,none),(3,none)] rfl λE O=>by
  have u0:= @TK.eq_1;exact rK
def TL (O:Ja0):Option (Ja1×Int):=(K6 O).bind λa8=>ite (!a8) (some (([]:List qS),1)) ((WU O ([]:pI)).bind λaA=>some (aA,0))
abbrev a05 (x:Ja0):List qK:=[sv (.list .part) x]
@[go_sem] def a06:Ja0->r8:=λO=>rv [] (TL O) λz=>([(.val (.list rT) (z.1),some 0),iv (z.2)],[.grow 132 2 ((z.1).length)])
@[go_sem] def aMe O:=rF a05 qU a06 O
@[go_sem] abbrev aE4:Nat×r7:=mE 103 [.v] a05 qU a06
def aE5:qW prog aE4:=
 rI (rH (qO tm rG) (qQ vi (qQ aCq rE))) func103 9 [(2,none),(3,none)] rfl λE O=>by
  have u0:= @TL.eq_1;exact rK
def TM (O:Ja0):Option (pI×Int):=(TF O).bind λa8=>ite (!a8) (some (([]:pI),1)) ((F8 O ([32]:pI)).bind λaA=>some (aA,0))
abbrev a07 (x:Ja0):List qK:=[sv (.list .part) x]
@[go_sem] def a08:Ja0->r8:=λO=>rv [] (TM O) λz=>([tv (z.1),iv (z.2)],[])
@[go_sem] def aMf O:=rF a07 qU a08 O
@[go_sem] abbrev aE6:Nat×r7:=mE 104 [.v] a07 qU a08
def aE7:qW prog aE6:=
 rI (rH rG (qQ aEB (qQ X7 rE))) func104 9 [(2,none),(3,none)] rfl λE O=>by
  have u0:= @TM.eq_1;exact rK
def P6 (O:pI) (a8:Bool):Option (Ja0×Int×Int×Int×Int):=(OY O).bind λaA=>ite (decide (aA.2.2=6)) (some (([]:List qF),aA.2.1,0,0,aA.2.2)) ((K8 (aA.1,((O.length:Int),(([]:pJ),(aA.2.1,(aA.2.2,()))))) 1 a8).bind λaB=>rA (σ:=(Int×Int)) (ite ((aB.2.2.2.2=0)&&(0<(aB.2.1.length:Int))) ((xS (aB.2.1,((O.length:Int),(aB.2.2.1,(aB.2.2.2.1,(aB.2.2.2.2,()))))) 3).bind λaC=>some (aC.1,aC.2)) (some (aB.2.2.2.1,aB.2.2.2.2))) fun(aD,aE)=>ite (!decide (aE=0)) ((T3 O aD).bind λaF=>some (([]:List qF),aF.1,aF.2.1,aF.2.2.1,aE)) ((F8 aB.1 ([32]:pI)).bind λaG=>ite (decide (4000<(aG.length:Int))) (some (([]:List qF),0,0,0,6)) (some (aB.1,0,0,0,0))))
abbrev a09 (x:(pI×Bool)):List qK:=[tv x.1,bv x.2]
@[go_sem] def a1a:(pI×Bool)->r8:=fun(O,a8)=>rv [] (P6 O a8) λz=>([(.val (.list .part) (z.1),some 0),sv E8 (z.2.1,(z.2.2.1,(z.2.2.2.1,()))),iv (z.2.2.2.2)],[.grow 183 6 ((z.1).length)])
@[go_sem] def aMg O a8:=rF a09 qU a1a (O,a8)
@[go_sem] abbrev aE8:Nat×r7:=mE 108 [.v,.v] a09 qU a1a
def aE9:qW prog aE8:=
 rI (rH (qO tN (qO rX (qO BA (qO uT (qO HJ (qO di (qO HI rG))))))) (qQ aED (qQ aEN (qQ NV (qQ aDQ (qQ X7 rE)))))) func108 76 [(4,none),(5,some 90),(6,none)] rfl λE ⟨O,a8⟩=>by
  have u0:= @P6.eq_1
  let j1 (aA:(Ja0×Ja2×pJ×Int×Int)):JE 47 (Int×Int):=⟨λx=>⟨[(0,tv O),(5,rs 0 0),(10,rs 1 0),(11,(.val (.list .part) aA.1,some 2))],[(0,.cells E8 (0,(0,(0,()))) []),(1,.cells tW (aA.2.1,((O.length:Int),(aA.2.2.1,(x.1,(x.2,()))))) [(2,3)]),(2,.grow 183 6 (aA.1.length)),(3,.grow 9 1 (aA.2.2.1.length))],4,76,0⟩⟩
  exact rK
def P7 (O:Ja0) (a8:Bool):Option Bool:=(XA ([]:pR) O 0 a8).bind λaA=>ite (((aA.1&&((aA.2.length:Int)<=20))==true)=true->(JZ O).isSome=true) (some ((aA.1&&((aA.2.length:Int)<=20))&&((val (JZ O))<=4000))) none
abbrev a1b (x:(Ja0×Bool)):List qK:=[sv (.list .part) x.1,bv x.2]
@[go_sem] def a1c:(Ja0×Bool)->r8:=fun(O,a8)=>rv [] (P7 O a8) λz=>([bv z],[])
@[go_sem] def aMh O a8:=rF a1b qU a1c (O,a8)
@[go_sem] abbrev aFa:Nat×r7:=mE 149 [.v,.v] a1b qU a1c
def a1d:qW prog aFa:=
 rI (rH (qO FV (qO rX (qO MW (qO tx rG)))) (qQ aEU (qQ Vt rE))) func149 23 [(4,none)] rfl λE ⟨O,a8⟩=>by
  have u0:= @P7.eq_1;exact rK
def TN (O:uC):Option Bool:=(SD O.1).bind λa8=>ite ((a8==true)=true->(C6 O.2.1).isSome=true) (ite (((a8&&(val (C6 O.2.1)))==true)=true->(FA O.2.2.1).isSome=true) (some ((a8&&(val (C6 O.2.1)))&&(val (FA O.2.2.1)))) none) none
abbrev a1e (x:uC):List qK:=[sv wE x]
@[go_sem] def a1f:uC->r8:=λO=>rv [] (TN O) λz=>([bv z],[])
@[go_sem] def aMi O:=rF a1e qU a1f O
@[go_sem] abbrev aFb:Nat×r7:=mE 48 [.v] a1e qU a1f
def aFc:qW prog aFb:=
 rI (rH (qO rX (qO vC (qO D3 (qO E9 rG)))) (qQ aCv (qQ a0Z (qQ a02 rE)))) func48 16 [(2,none)] rfl λE O=>by
  have u0:= @TN.eq_1;exact rK
def KB (O:pI):Option (Ja0×Int×Int×Int×Int):=(P6 O false).bind λa8=>some (a8.1,a8.2.1,a8.2.2.1,a8.2.2.2.1,a8.2.2.2.2)
abbrev a1g (x:pI):List qK:=[tv x]
@[go_sem] def a1h:pI->r8:=λO=>rv [] (KB O) λz=>([(.val (.list .part) (z.1),some 0),sv E8 (z.2.1,(z.2.2.1,(z.2.2.2.1,()))),iv (z.2.2.2.2)],[.grow 183 6 ((z.1).length)])
@[go_sem] def aMj O:=rF a1g qU a1h O
@[go_sem] abbrev aFd:Nat×r7:=mE 68 [.v] a1g qU a1h
def a1i:qW prog aFd:=
 rI (rH (qO uT (qO HJ rG)) (qQ aE9 rE)) func68 10 [(2,none),(3,some 90),(4,none)] rfl λE O=>by
  have u0:= @KB.eq_1;exact rK
attribute [irreducible] EH P3 C6 FA TK TL TM P6 P7 TN KB
end
end Go.Proofs.YtedimeeleabhnaaGreatDoor
