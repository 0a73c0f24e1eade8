import Derived.Test.YtedimeeleabhnaaGreatDoorV03a
set_option linter.all false
set_option maxRecDepth 100000
set_option maxHeartbeats 4000000
namespace Go.Proofs.YtedimeeleabhnaaGreatDoor
open Vc
open Tryz
noncomputable section
def KN (O:pJ) (a8:Ja2) (aA:Int) (aB:pR) (aC:pS):Option (pJ×Int×Int×Int×pS):=(vU O a8 aA aB aC).bind λaD=>ite (((decide (aD=9))==true)=true->0<=aA/\aA<(a8.length:Int)) (ite (((decide (aD=9))==true)=true->(AS ((qI sO a8 aA).2.1)).isSome=true) (ite ((((aD=9)&&(val (AS ((qI sO a8 aA).2.1))))==true)=true->0<=aA/\aA<(a8.length:Int)) (rD (σ:=(Int×Int)) (ite ((((aD=9)&&(val (AS ((qI sO a8 aA).2.1))))&&(!(sC .str .bool aC ((qI sO a8 aA).2.1))))&&(20<=(aC.length:Int))) ((vV O a8 aA aB 6 aC).bind λaE=>some (aE.1,aE.2)) (some (aB.1,aB.2.1))) fun(aF,aG)=>(C5 O a8 aA (aF,(aG,())) aC).bind λaH=>ite (!decide (aH.1=([]:pJ))) (some (aH.1,aH.2.1,aH.2.2.1,aH.2.2.2,(rN .str .bool aH.1 true aC))) (some (aH.1,aH.2.1,aH.2.2.1,aH.2.2.2,aC))) none) none) none
abbrev Zz (x:(pJ×Ja2×Int×pR×pS)):List qP:=[rs 0 0]
abbrev a0a (x:(pJ×Ja2×Int×pR×pS)):List qQ:=[.cells tG (x.1,(x.2.1,(x.2.2.1,((some 1),x.2.2.2.1)))) [],.map .str .bool x.2.2.2.2]
@[go_sem] def a0b:(pJ×Ja2×Int×pR×pS)->r9:=fun(O,a8,aA,aB,aC)=>rv [] (KN O a8 aA aB aC) λz=>([tv (z.1)],[.cells tG (O,(a8,(z.2.1,((some 1),(z.2.2.1,(z.2.2.2.1,())))))) [],.map .str .bool (z.2.2.2.2)])
@[go_sem] def aM1 O a8 aA aB aC:=rI Zz a0a a0b (O,a8,aA,aB,aC)
@[go_sem] abbrev aFe:Nat×r8:=mE 252 [.p tG []] Zz a0a a0b [(0,3,.m)] []
def fj:qZ prog aFe:=
 rJ (rH (qO tO (qO HW (qO rY (qO N7 (qO A4 (qO zJ (qO AQ rG))))))) (qS C2 (qS X7 (qS EN (qS Zb rF))))) func252 60 [(2,none)] rfl λE ⟨O,a8,aA,aB,aC⟩=>by
  have u0:= @KN.eq_1
  let j1:JE 47 (Int×Int):=⟨λx=>⟨[(0,rs 0 0)],[(0,.cells tG (O,(a8,(aA,((some 1),(x.1,(x.2,())))))) []),(1,.map .str .bool aC)],2,60,2⟩⟩
  exact rM
def OY (O:pJ):Int->Option (Int⊕Int):=λa8=>ite (((decide (a8<(O.length:Int)))==true)=true->0<=a8/\a8<(O.length:Int)) (ite ((a8<(O.length:Int))&&((((((97<=(r7 O a8))&&((r7 O a8)<=122))||((65<=(r7 O a8))&&((r7 O a8)<=90)))||((48<=(r7 O a8))&&((r7 O a8)<=57)))||((r7 O a8)=95))||((r7 O a8)=45))) (ite (qH (a8+1)) (some (.inl (a8+1))) none) (some (.inr a8))) none
def TO (O:pJ) (a8:Int):Option (Int×pJ×Int×Int):=ite (qH (a8+1)) (ite (((decide ((a8+1)<(O.length:Int)))==true)=true->0<=(a8+1)/\(a8+1)<(O.length:Int)) (rD (σ:=(Int×Int)) (ite (((a8+1)<(O.length:Int))&&((r7 O (a8+1))=47)) (ite (qH ((a8+1)+1)) (some (6,((a8+1)+1))) none) (some (5,(a8+1)))) fun(aA,aB)=>rD (rC (OY O) aB) λaC=>ite (0<=(min aB (O.length:Int))/\(min aB (O.length:Int))<=aC/\aC<=(O.length:Int)) (ite ((((aA=5)&&(aC<(O.length:Int)))==true)=true->0<=aC/\aC<(O.length:Int)) (rD (σ:=(Int×Int)) (ite (((aA=5)&&(aC<(O.length:Int)))&&((r7 O aC)=47)) (ite (qH (aC+1)) (some (7,(aC+1))) none) (some (aA,aC))) fun(aD,aE)=>ite (0<=a8/\a8<(O.length:Int)) (ite (((!decide ((r7 O a8)=60))==false)=true->(vW (s8 O (min aB (O.length:Int)) aC)).isSome=true) (ite (((((!decide ((r7 O a8)=60))||(!(val (vW (s8 O (min aB (O.length:Int)) aC)))))||((O.length:Int)<=aE))==false)=true->0<=aE/\aE<(O.length:Int)) (ite ((((!decide ((r7 O a8)=60))||(!(val (vW (s8 O (min aB (O.length:Int)) aC)))))||((O.length:Int)<=aE))||(!decide ((r7 O aE)=62))) (some (0,([]:pJ),0,0)) (ite (qH (aE+1)) (some (aD,(s8 O (min aB (O.length:Int)) aC),a8,(aE+1))) none)) none) none) none) none) none) none) none
abbrev a0c (x:(pJ×Int)):List qP:=[tv x.1,iv x.2]
@[go_sem] def a0d:(pJ×Int)->r9:=fun(O,a8)=>rv [] (TO O a8) λz=>([sv sO (z.1,(z.2.1,(z.2.2.1,(z.2.2.2,()))))],[])
@[go_sem] def aM2 O a8:=rI a0c qV a0d (O,a8)
@[go_sem] abbrev aFf:Nat×r8:=mE 265 [.v,.v] a0c qV a0d
def aFg:qZ prog aFf:=
 rJ (rH (qO rY (qO D6 rG)) (qS vp (qS TM rF))) func265 87 [(4,some 228)] rfl λE ⟨O,a8⟩=>by
  have u0:= @TO.eq_1;have u1:= @OY.eq_1
  let l1 aA aB:LE (OY O):=⟨λx=>⟨[(0,tv O),(1,iv a8),(4,rs 0 0),(5,iv aA),(6,iv aB),(7,iv x)],[(0,.cells sO (0,(([]:pJ),(0,(0,())))) [])],1,87,0⟩⟩
  let j1:JE 20 (Int×Int):=⟨λx=>⟨[(0,tv O),(1,iv a8),(4,rs 0 0),(5,iv x.1),(6,iv x.2)],[(0,.cells sO (0,(([]:pJ),(0,(0,())))) [])],1,87,0⟩⟩
  let j2 aB aC:JE 56 (Int×Int):=⟨λx=>⟨[(0,tv O),(1,iv a8),(4,rs 0 0),(5,iv x.1),(7,iv x.2),(8,tv (s8 O (min aB (O.length:Int)) aC))],[(0,.cells sO (0,(([]:pJ),(0,(0,())))) [])],1,87,0⟩⟩
  let x1 aA aB:XE (OY O) 0 Int:=⟨λx=>⟨[(0,tv O),(1,iv a8),(4,rs 0 0),(5,iv aA),(6,iv aB),(7,iv x)],[(0,.cells sO (0,(([]:pJ),(0,(0,())))) [])],1,87,0⟩⟩
  exact rM
def OZ (O:s9):Option (pJ×Ja2×pK×Int×Int):=(vG O).bind λa8=>(vG O).bind λaA=>ite (((decide (aA.1=9))==true)=true->(vW a8.2.1).isSome=true) (ite ((((aA.1=9)&&(val (vW a8.2.1)))==true)=true->(zB O.2.2.1 a8.2.1).isSome=true) (ite (((aA.1=9)&&(val (vW a8.2.1)))&&(!(val (zB O.2.2.1 a8.2.1)))) (rD (σ:=(Int×Int)) (ite (decide (20<=(O.2.2.1.length:Int))) ((xZ O 6).bind λaB=>some (aB.1,aB.2)) (some (O.2.2.2.1,O.2.2.2.2.1))) fun(aC,aD)=>ite ((O.2.2.1.length+([a8.2.1]:pK).length)*16<=140737488355328) ((vW a8.2.1).bind λaE=>(vR (O.1,(O.2.1,((O.2.2.1++([a8.2.1]:pK)),(aC,(aD,()))))) aE).bind λaF=>some (aF.1,aF.2.1,(O.2.2.1++([a8.2.1]:pK)),aF.2.2.1,aF.2.2.2)) none) ((vW a8.2.1).bind λaG=>(vR O aG).bind λaH=>some (aH.1,aH.2.1,O.2.2.1,aH.2.2.1,aH.2.2.2))) none) none
abbrev a0e (x:(s9×Nat)):List qP:=[rs 0 0]
abbrev a0f (x:(s9×Nat)):List qQ:=[.cells tZ x.1 [(2,1)],.grow 9 1 x.2]
@[go_sem] def a0g:(s9×Nat)->r9:=fun(O,a8)=>rv [a8=(O.2.2.1.length)] (OZ O) λz=>([tv (z.1)],[.cells tZ (z.2.1,(O.2.1,(z.2.2.1,(z.2.2.2.1,(z.2.2.2.2,()))))) [(2,1)],.grow 9 1 ((z.2.2.1).length)])
@[go_sem] def aM3 O a8:=rI a0e a0f a0g (O,a8)
@[go_sem] abbrev aFh:Nat×r8:=mE 266 [.p tZ [2]] a0e a0f a0g
def aFi:qZ prog aFh:=
 rJ (rH (qO vF (qO HV (qO D6 rG))) (qS K3 (qS TM (qS ej (qS O7 (qS wt rF)))))) func266 46 [(2,none)] rfl λE ⟨O,a8⟩=>by
  have u0:= @OZ.eq_1
  let j1 (aA:(Int×pJ×Int×Int)):JE 29 (Int×Int):=⟨λx=>⟨[(0,rs 0 0),(3,tv aA.2.1)],[(0,.cells tZ (O.1,(O.2.1,(O.2.2.1,(x.1,(x.2,()))))) [(2,1)]),(1,.grow 9 1 (O.2.2.1.length))],2,46,2⟩⟩
  exact rM
def P1 (O:pJ):Option Bool:=(X8 O).bind λa8=>some (a8.2.2.2)
abbrev a0h (x:pJ):List qP:=[tv x]
@[go_sem] def a0i:pJ->r9:=λO=>rv [] (P1 O) λz=>([bv z],[])
@[go_sem] def aM4 O:=rI a0h qV a0i O
@[go_sem] abbrev aFj:Nat×r8:=mE 271 [.v] a0h qV a0i
def aFk:qZ prog aFj:=
 rJ (rH (qO Ls rG) (qS aD9 rF)) func271 11 [(2,none)] rfl λE O=>by
  have u0:= @P1.eq_1;exact rM
def TP (O:pJ) (a8:pJ):Option (pJ×Bool):=(X9 O a8).bind λaA=>some (aA.1,aA.2)
abbrev a0j (x:(pJ×pJ)):List qP:=[tv x.1,tv x.2]
@[go_sem] def a0k:(pJ×pJ)->r9:=fun(O,a8)=>rv [] (TP O a8) λz=>([tv (z.1),bv (z.2)],[])
@[go_sem] def aM5 O a8:=rI a0j qV a0k (O,a8)
@[go_sem] abbrev aFl:Nat×r8:=mE 291 [.v,.v] a0j qV a0k
def aFm:qZ prog aFl:=
 rJ (rH rG (qS aEb rF)) func291 11 [(4,none),(5,none)] rfl λE ⟨O,a8⟩=>by
  have u0:= @TP.eq_1;exact rM
def XG (O:pJ):Option (Bool×pJ×pJ×Bool):=(GJ O ([45]:pJ)).bind λa8=>(O3 a8.1 ([46]:pJ)).bind λaA=>ite (((((aA.1.length:Int)<1)||(15<(aA.1.length:Int)))==false)=true->(HZ aA.1).isSome=true) (ite (((((((aA.1.length:Int)<1)||(15<(aA.1.length:Int)))||(!((Lib.trimS aA.1 Qb7)=([]:pJ))))==false)&&((decide (1<(aA.1.length:Int)))==true))=true->0<=(0:Int)/\0<(aA.1.length:Int)) (ite (((((aA.1.length:Int)<1)||(15<(aA.1.length:Int)))||(!((Lib.trimS aA.1 Qb7)=([]:pJ))))||((1<(aA.1.length:Int))&&((r7 aA.1 0)=48))) (some (a8.2,aA.1,aA.2.1,false)) (ite ((((aA.2.2&&((aA.2.1.length:Int)=0))||(6<(aA.2.1.length:Int)))==false)=true->(HZ aA.2.1).isSome=true) (ite (((aA.2.2&&((aA.2.1.length:Int)=0))||(6<(aA.2.1.length:Int)))||(!((Lib.trimS aA.2.1 Qb7)=([]:pJ)))) (some (a8.2,aA.1,aA.2.1,false)) (ite (((!a8.2)==false)=true->(OG (a8.2,(aA.1,(aA.2.1,())))).isSome=true) (some (a8.2,aA.1,aA.2.1,((!a8.2)||(!(((Lib.trimS aA.1 Qb0)=([]:pJ))&&((Lib.trimS aA.2.1 Qb0)=([]:pJ))))))) none)) none)) none) none
abbrev a0l (x:pJ):List qP:=[tv x]
@[go_sem] def a0m:pJ->r9:=λO=>rv [] (XG O) λz=>([sv D1 (z.1,(z.2.1,(z.2.2.1,()))),bv (z.2.2.2)],[])
@[go_sem] def aM6 O:=rI a0l qV a0m O
@[go_sem] abbrev aFn:Nat×r8:=mE 325 [.v] a0l qV a0m
def aFo:qZ prog aFn:=
 rJ (rH (qO rY (qO vh rG)) (qS wq (qS aDD (qS aCT (qS aEd rF))))) func325 76 [(2,some 300),(3,none)] rfl λE O=>by
  have u0:= @XG.eq_1;exact rM
def P2 (O:pK):Int->Option (Int⊕(Unit⊕Int)):=λa8=>ite (decide (a8<(O.length:Int))) (ite (0<=a8/\a8<(O.length:Int)) ((XF (qI .str O a8)).bind λaA=>ite (!((((qI .str O a8).length:Int)<=4000)&&(Lib.validD (qI .str O a8)))) (some (.inr (.inr (a8)))) (ite (qH (a8+1)) (some (.inl (a8+1))) none)) none) (some (.inr (.inl ())))
def XH (O:pK):Option Int:=sK (rC (P2 O) 0) λ_=>some (-1:Int)
abbrev a0n (x:pK):List qP:=[sv (.list .str) x,sv .clo (some (87,[]))]
@[go_sem] def a0o:pK->r9:=λO=>rv [] (XH O) λz=>([iv z],[])
@[go_sem] def aM7 O:=rI a0n qV a0o O
@[go_sem] abbrev aFp:Nat×r8:=mE 127 [.v,.v] a0n qV a0o
def aFq:qZ prog aFp:=
 rJ (rH (qO rY (qO vF rG)) (qS aE1 rF)) func127 19 [(4,none)] rfl λE O=>by
  have u0:= @XH.eq_1;have u1:= @P2.eq_1
  let l1:LE (P2 O):=⟨λx=>⟨[(0,sv (.list .str) O),(1,sv .clo (some (87,[]))),(7,iv (O.length:Int)),(8,iv x)],[],0,19,0⟩⟩
  let x1:XE (P2 O) 0 Unit:=⟨λ_=>⟨[],[],0,19,0⟩⟩
  exact rM
def DA (O:pK):Option Bool:=(XH O).bind λa8=>some (decide (0<=a8))
abbrev a0p (x:pK):List qP:=[sv (.list .str) x,sv .clo (some (87,[]))]
@[go_sem] def a0q:pK->r9:=λO=>rv [] (DA O) λz=>([bv z],[])
@[go_sem] def aM8 O:=rI a0p qV a0q O
@[go_sem] abbrev aFr:Nat×r8:=mE 86 [.v,.v] a0p qV a0q
def aFs:qZ prog aFr:=
 rJ (rH rG (qS aFq rF)) func86 9 [(4,none)] rfl λE O=>by
  have u0:= @DA.eq_1;exact rM
def P3 (O:pK):(pK×Int)->Option ((pK×Int)⊕pK):=fun(a8,aA)=>ite (decide (aA<(O.length:Int))) (ite (0<=aA/\aA<(O.length:Int)) ((TH 2 (qI .str O aA)).bind λaB=>ite (((Qb2++aB).length:Int)<=9223372036854775807) (ite ((((Qb2++aB)++Qb2).length:Int)<=9223372036854775807) (ite ((a8.length+([((Qb2++aB)++Qb2)]:pK).length)*16<=140737488355328) (ite (qH (aA+1)) (some (.inl ((a8++([((Qb2++aB)++Qb2)]:pK)),(aA+1)))) none) none) none) none) none) (some (.inr a8))
def P4 (O:pK):Option pJ:=rD (rC (P3 O) (([]:pK),0)) λa8=>ite (a8.length<=140737488355328/\List.length (FG a8 Qa9)<=140737488355328) (some (FG a8 Qa9)) none
abbrev a0r (x:pK):List qP:=[sv (.list .str) x]
@[go_sem] def a0s:pK->r9:=λO=>rv [] (P4 O) λz=>([tv z],[])
@[go_sem] def aM9 O:=rI a0r qV a0s O
@[go_sem] abbrev aFt:Nat×r8:=mE 33 [.v] a0r qV a0s
def a0t:qZ prog aFt:=
 rJ (rH (qO rY (qO vF rG)) (qS aEZ (qS Md rF))) func33 22 [(2,none)] rfl λE O=>by
  have u0:= @P4.eq_1;have u1:= @P3.eq_1
  let l1:LE (P3 O):=⟨λx=>⟨[(3,(.val (.list .str) x.1,some 0)),(6,sv (.list .str) O),(7,iv (O.length:Int)),(8,iv x.2)],[(0,.grow 9 1 (x.1.length))],1,22,0⟩⟩
  let x1:XE (P3 O) 0 pK:=⟨λx=>⟨[(3,(.val (.list .str) x,some 0))],[(0,.grow 9 1 (x.length))],1,22,0⟩⟩
  exact rM
def KO (O:pK):(pJ×Int)->Option ((pJ×Int)⊕pJ):=fun(a8,aA)=>ite (decide (aA<(O.length:Int))) (rD (σ:=pJ) (ite (decide (0<aA)) (ite (((a8++Qa9).length:Int)<=9223372036854775807) (some (a8++Qa9)) none) (some (a8))) λaB=>ite (((aB++Qb2).length:Int)<=9223372036854775807) (ite (0<=aA/\aA<(O.length:Int)) ((T8 2 (qI .str O aA)).bind λaC=>ite ((((aB++Qb2)++aC).length:Int)<=9223372036854775807) (ite (((((aB++Qb2)++aC)++Qb2).length:Int)<=9223372036854775807) (ite (qH (aA+1)) (some (.inl ((((aB++Qb2)++aC)++Qb2),(aA+1)))) none) none) none) none) none) (some (.inr a8))
def P5 (O:pK):Option pJ:=rD (rC (KO O) (([]:pJ),0)) λa8=>some (a8)
abbrev a0u (x:pK):List qP:=[sv (.list .str) x]
@[go_sem] def a0v:pK->r9:=λO=>rv [] (P5 O) λz=>([tv z],[])
@[go_sem] def aNa O:=rI a0u qV a0v O
@[go_sem] abbrev aFu:Nat×r8:=mE 36 [.v] a0u qV a0v
def a0w:qZ prog aFu:=
 rJ (rH (qO rY (qO vF rG)) (qS aEn rF)) func36 25 [(2,none)] rfl λE O=>by
  have u0:= @P5.eq_1;have u1:= @KO.eq_1
  let l1:LE (KO O):=⟨λx=>⟨[(0,sv (.list .str) O),(3,tv x.1),(4,iv x.2)],[],0,25,0⟩⟩
  let j1 a8:JE 12 pJ:=⟨λx=>⟨[(0,sv (.list .str) O),(3,tv x),(4,iv a8)],[],0,25,0⟩⟩
  let x1:XE (KO O) 0 pJ:=⟨λx=>⟨[(3,tv x)],[],0,25,0⟩⟩
  exact rM
attribute [irreducible] KN TO OZ P1 TP XG XH DA P4 P5
end
noncomputable section
def P6 (O:pK):Option Unit:=ite (((decide ((O.length:Int)<=20))==true)=true->(DA O).isSome=true) (some (())) none
abbrev a0x (x:pK):List qP:=[sv (.list .str) x]
@[go_sem] def a0y:pK->r9:=λO=>rv [] (P6 O) λz=>([bv (((O.length:Int)<=20)&&(!(val (DA O))))],[])
@[go_sem] def aNb O:=rI a0x qV a0y O
@[go_sem] abbrev aFv:Nat×r8:=mE 55 [.v] a0x qV a0y
def a0z:qZ prog aFv:=
 rJ (rH (qO vF rG) (qS aFs rF)) func55 11 [(2,none)] rfl λE O=>by
  have u0:= @P6.eq_1;exact rM
def P7 (O:wD):Option Bool:=ite ((((O.1=([]:pJ))||(200<(O.1.length:Int)))==false)=true->(GI O.1).isSome=true) (ite (((((O.1=([]:pJ))||(200<(O.1.length:Int)))||(!(((O.1.length:Int)<=4000)&&(Lib.validD O.1))))||(O.2.2.2.2.2.1<0))||(4<O.2.2.2.2.2.1)) (some (false)) ((GI O.2.1).bind λa8=>ite (((((O.2.1.length:Int)<=4000)&&(Lib.validD O.2.1))==true)=true->(GI O.2.2.1).isSome=true) (ite ((((((O.2.1.length:Int)<=4000)&&(Lib.validD O.2.1))&&(((O.2.2.1.length:Int)<=4000)&&(Lib.validD O.2.2.1)))==true)=true->(P6 O.2.2.2.1).isSome=true) (ite (((((((O.2.1.length:Int)<=4000)&&(Lib.validD O.2.1))&&(((O.2.2.1.length:Int)<=4000)&&(Lib.validD O.2.2.1)))&&(((O.2.2.2.1.length:Int)<=20)&&(!(val (DA O.2.2.2.1)))))==true)=true->(K1 O.2.2.2.2.1).isSome=true) (ite ((((((((O.2.1.length:Int)<=4000)&&(Lib.validD O.2.1))&&(((O.2.2.1.length:Int)<=4000)&&(Lib.validD O.2.2.1)))&&(((O.2.2.2.1.length:Int)<=20)&&(!(val (DA O.2.2.2.1)))))&&(val (K1 O.2.2.2.2.1)))==true)=true->(I8 O.2.2.2.2.2.2.1).isSome=true) (some (((((((O.2.1.length:Int)<=4000)&&(Lib.validD O.2.1))&&(((O.2.2.1.length:Int)<=4000)&&(Lib.validD O.2.2.1)))&&(((O.2.2.2.1.length:Int)<=20)&&(!(val (DA O.2.2.2.1)))))&&(val (K1 O.2.2.2.2.1)))&&(val (I8 O.2.2.2.2.2.2.1)))) none) none) none) none)) none
abbrev a0A (x:wD):List qP:=[sv tJ x]
@[go_sem] def a0B:wD->r9:=λO=>rv [] (P7 O) λz=>([bv z],[])
@[go_sem] def aNc O:=rI a0A qV a0B O
@[go_sem] abbrev aFw:Nat×r8:=mE 57 [.v] a0A qV a0B
def aFx:qZ prog aFw:=
 rJ (rH (qO tO (qO rY (qO vF (qO D5 (qO D4 rG))))) (qS wo (qS a0z (qS aBT (qS Ze rF))))) func57 51 [(2,none)] rfl λE O=>by
  have u0:= @P7.eq_1;exact rM
def vA (O:pJ):Option Bool:=(TK O).bind λa8=>(T1 a8).bind λaA=>some (decide (aA=O))
abbrev a0C (x:pJ):List qP:=[tv x]
@[go_sem] def a0D:pJ->r9:=λO=>rv [] (vA O) λz=>([bv z],[])
@[go_sem] def aNd O:=rI a0C qV a0D O
@[go_sem] abbrev aFy:Nat×r8:=mE 126 [.v] a0C qV a0D
def aFz:qZ prog aFy:=
 rJ (rH rG (qS aE6 (qS aDT rF))) func126 8 [(2,none)] rfl λE O=>by
  have u0:= @vA.eq_1;exact rM
def P8 (O:pJ):Int->Option (Int⊕Int):=λa8=>ite (((decide (a8<(O.length:Int)))==true)=true->0<=a8/\a8<(O.length:Int)) (ite ((a8<(O.length:Int))&&((((((((97<=(r7 O a8))&&((r7 O a8)<=122))||((65<=(r7 O a8))&&((r7 O a8)<=90)))||((48<=(r7 O a8))&&((r7 O a8)<=57)))||((r7 O a8)=95))||((r7 O a8)=45))||((r7 O a8)=46))||((r7 O a8)=61))) (ite (qH (a8+1)) (some (.inl (a8+1))) none) (some (.inr a8))) none
def P9 (O:pJ) (a8:Int):Option (Int×pJ×Int×Int):=rD (rC (P8 O) a8) λaA=>ite (decide (a8<aA)) (ite (0<=a8/\a8<=aA/\aA<=(O.length:Int)) (some (9,(s8 O a8 aA),a8,aA)) none) (ite (0<=a8/\a8<(O.length:Int)) (ite (decide ((r7 O a8)=123)) (ite (qH (a8+1)) (some (2,Qa8,a8,(a8+1))) none) (ite (0<=a8/\a8<(O.length:Int)) (ite (decide ((r7 O a8)=125)) (ite (qH (a8+1)) (some (3,Qb1,a8,(a8+1))) none) (ite (0<=a8/\a8<(O.length:Int)) (ite (decide ((r7 O a8)=44)) (ite (qH (a8+1)) (some (8,Qb3,a8,(a8+1))) none) (some (0,([]:pJ),0,0))) none)) none)) none)
abbrev a0E (x:(pJ×Int)):List qP:=[tv x.1,iv x.2]
@[go_sem] def a0F:(pJ×Int)->r9:=fun(O,a8)=>rv [] (P9 O a8) λz=>([sv sO (z.1,(z.2.1,(z.2.2.1,(z.2.2.2,()))))],[])
@[go_sem] def aNe O a8:=rI a0E qV a0F (O,a8)
@[go_sem] abbrev aFA:Nat×r8:=mE 208 [.v,.v] a0E qV a0F
def aFB:qZ prog aFA:=
 rJ (rH (qO rY (qO D6 rG)) (qS aFd rF)) func208 58 [(4,some 228)] rfl λE ⟨O,a8⟩=>by
  have u0:= @P9.eq_1;have u1:= @P8.eq_1
  let l1:LE (P8 O):=⟨λx=>⟨[(0,tv O),(1,iv a8),(4,rs 0 0),(5,iv x)],[(0,.cells sO (0,(([]:pJ),(0,(0,())))) [])],1,58,0⟩⟩
  let x1:XE (P8 O) 0 Int:=⟨λx=>⟨[(0,tv O),(1,iv a8),(4,rs 0 0),(5,iv x)],[(0,.cells sO (0,(([]:pJ),(0,(0,())))) [])],1,58,0⟩⟩
  exact rM
def PA (O:pJ) (a8:Int) (aA:Int):Option (Int×pJ×Int×Int):=(SP O a8).bind λaB=>ite (decide (a8<aB)) (ite (0<=a8/\a8<=aB/\aB<=(O.length:Int)) (some (1,(s8 O a8 aB),a8,aB)) none) (ite (0<=a8/\a8<(O.length:Int)) (ite (decide ((r7 O a8)=123)) (ite (qH (a8+1)) (some (2,Qa8,a8,(a8+1))) none) (ite (0<=a8/\a8<(O.length:Int)) (ite (((r7 O a8)=125)&&(0<aA)) (ite (qH (a8+1)) (some (3,Qb1,a8,(a8+1))) none) (ite (0<=a8/\a8<(O.length:Int)) (ite (decide ((r7 O a8)=35)) (ite (qH (a8+1)) (some (4,([35]:pJ),a8,(a8+1))) none) ((TO O a8).bind λaC=>some (aC.1,aC.2.1,aC.2.2.1,aC.2.2.2))) none)) none)) none)
abbrev a0G (x:(pJ×Int×Int)):List qP:=[tv x.1,iv x.2.1,iv x.2.2]
@[go_sem] def a0H:(pJ×Int×Int)->r9:=fun(O,a8,aA)=>rv [] (PA O a8 aA) λz=>([sv sO (z.1,(z.2.1,(z.2.2.1,(z.2.2.2,()))))],[])
@[go_sem] def aNf O a8 aA:=rI a0G qV a0H (O,a8,aA)
@[go_sem] abbrev aFC:Nat×r8:=mE 209 [.v,.v,.v] a0G qV a0H
def aFD:qZ prog aFC:=
 rJ (rH (qO rY (qO D6 rG)) (qS aCC (qS aFg rF))) func209 55 [(6,some 228)] rfl λE ⟨O,a8,aA⟩=>by
  have u0:= @PA.eq_1;exact rM
def BF (O:Int) (a8:pJ):Option Bool:=ite (decide (O=9)) ((vW a8).bind λaA=>some (aA)) (ite (((((((((a8=Qc6)||(a8=Qc7))||(a8=Qc8))||(a8=Qc9))||(a8=Qd0))||(a8=Qb5))==false)&&((decide (1<(a8.length:Int)))==true))=true->0<=(0:Int)/\0<(a8.length:Int)) (ite (((((((((a8=Qc6)||(a8=Qc7))||(a8=Qc8))||(a8=Qc9))||(a8=Qd0))||(a8=Qb5))==false)&&(((1<(a8.length:Int))&&((r7 a8 0)=61))==true))=true->0<=(1:Int)/\1<=(a8.length:Int)/\(a8.length:Int)<=(a8.length:Int)) (ite (((((((((a8=Qc6)||(a8=Qc7))||(a8=Qc8))||(a8=Qc9))||(a8=Qd0))||(a8=Qb5))==false)&&(((1<(a8.length:Int))&&((r7 a8 0)=61))==true))=true->(P1 (s8 a8 1 (a8.length:Int))).isSome=true) (some (((((((a8=Qc6)||(a8=Qc7))||(a8=Qc8))||(a8=Qc9))||(a8=Qd0))||(a8=Qb5))||(((1<(a8.length:Int))&&((r7 a8 0)=61))&&(val (P1 (s8 a8 1 (a8.length:Int))))))) none) none) none)
abbrev a0I (x:(Int×pJ)):List qP:=[iv x.1,tv x.2]
@[go_sem] def a0J:(Int×pJ)->r9:=fun(O,a8)=>rv [] (BF O a8) λz=>([bv z],[])
@[go_sem] def aNg O a8:=rI a0I qV a0J (O,a8)
@[go_sem] abbrev aFE:Nat×r8:=mE 217 [.v,.v] a0I qV a0J
def a0K:qZ prog aFE:=
 rJ (rH (qO rY rG) (qS TM (qS aCF (qS aFk rF)))) func217 26 [(4,none)] rfl λE ⟨O,a8⟩=>by
  have u0:= @BF.eq_1;exact rM
def TQ (O:pJ):Option (Int×pJ×Int):=ite (decide ((AM O 62)<0)) (some (0,([]:pJ),0)) (ite (0<=(1:Int)/\1<=(AM O 62)/\(AM O 62)<=(O.length:Int)) ((GJ (s8 O 1 (AM O 62)) Qa7).bind λa8=>rD (σ:=(Int×pJ)) (ite a8.2 (some (6,a8.1)) ((TP (s8 O 1 (AM O 62)) Qa7).bind λaA=>ite aA.2 (some (7,aA.1)) (some (5,(s8 O 1 (AM O 62)))))) fun(aB,aC)=>(AS aC).bind λaD=>ite (!aD) (some (0,([]:pJ),0)) (ite (qH ((AM O 62)+1)) (some (aB,aC,((AM O 62)+1))) none)) none)
abbrev a0L (x:pJ):List qP:=[tv x]
@[go_sem] def a0M:pJ->r9:=λO=>rv [] (TQ O) λz=>([iv (z.1),tv (z.2.1),iv (z.2.2)],[])
@[go_sem] def aNh O:=rI a0L qV a0M O
@[go_sem] abbrev aFF:Nat×r8:=mE 250 [.v] a0L qV a0M
def aFG:qZ prog aFF:=
 rJ (rH (qO rY rG) (qS Ma (qS wq (qS aFm (qS X7 rF))))) func250 38 [(2,none),(3,none),(4,none)] rfl λE O=>by
  have u0:= @TQ.eq_1
  let j1:JE 22 (Int×pJ):=⟨λx=>⟨[(2,iv x.1),(3,tv x.2),(5,iv (AM O 62))],[],0,38,0⟩⟩
  exact rM
def PB (O:pJ):Option Bool:=(XG O).bind λa8=>some (a8.2.2.2)
abbrev a0N (x:pJ):List qP:=[tv x]
@[go_sem] def a0O:pJ->r9:=λO=>rv [] (PB O) λz=>([bv z],[])
@[go_sem] def aNi O:=rI a0N qV a0O O
@[go_sem] abbrev aFH:Nat×r8:=mE 313 [.v] a0N qV a0O
def aFI:qZ prog aFH:=
 rJ (rH (qO vh rG) (qS aFo rF)) func313 11 [(2,none)] rfl λE O=>by
  have u0:= @PB.eq_1;exact rM
def I9 (O:tP):(Int×pS)->Option ((Int×pS)⊕(Unit⊕Bool)):=fun(a8,aA)=>ite (decide (a8<(O.2.2.2.1.length:Int))) (ite (0<=a8/\a8<(O.2.2.2.1.length:Int)) (ite (((sC .str .bool aA ((qI tJ O.2.2.2.1 a8).1))==false)=true->(P7 (qI tJ O.2.2.2.1 a8)).isSome=true) (ite ((sC .str .bool aA ((qI tJ O.2.2.2.1 a8).1))||(!(val (P7 (qI tJ O.2.2.2.1 a8))))) (some (.inr (.inr (false)))) (ite (qH (a8+1)) (some (.inl ((a8+1),(rN .str .bool ((qI tJ O.2.2.2.1 a8).1) true aA)))) none)) none) none) (some (.inr (.inl ())))
def TR (O:tP):Option Bool:=(SL O.1).bind λa8=>ite (((!a8)==false)=true->(P6 O.2.1).isSome=true) (ite ((((!a8)||(!(((O.2.1.length:Int)<=20)&&(!(val (DA O.2.1))))))==false)=true->(I8 O.2.2.1).isSome=true) (ite ((((!a8)||(!(((O.2.1.length:Int)<=20)&&(!(val (DA O.2.1))))))||(!(val (I8 O.2.2.1))))||(1000<(O.2.2.2.1.length:Int))) (some (false)) (sK (rC (I9 O) (0,([]:pS))) λ_=>some (true))) none) none
abbrev a0P (x:tP):List qP:=[sv vL x]
@[go_sem] def a0Q:tP->r9:=λO=>rv [] (TR O) λz=>([bv z],[])
@[go_sem] def aNj O:=rI a0P qV a0Q O
@[go_sem] abbrev aFJ:Nat×r8:=mE 31 [.v] a0P qV a0Q
def aFK:qZ prog aFJ:=
 rJ (rH (qO HW (qO rY (qO vF (qO D5 (qO JY (qO D3 (qO D4 (qO N7 rG)))))))) (qS aBK (qS a0z (qS Ze (qS aFx rF))))) func31 49 [(2,none)] rfl λE O=>by
  have u0:= @TR.eq_1;have u1:= @I9.eq_1
  let l1:LE (I9 O):=⟨λx=>⟨[(3,sv .mp (some 0)),(30,sv (.list tJ) O.2.2.2.1),(31,iv (O.2.2.2.1.length:Int)),(32,iv x.1)],[(0,.map .str .bool x.2)],1,49,0⟩⟩
  let x1:XE (I9 O) 0 Unit:=⟨λ_=>⟨[],[],0,49,0⟩⟩
  exact rM
def GM (O:pJ):Option Unit:=ite (((decide ((O.length:Int)<=4000))==true)=true->(vA O).isSome=true) (some (())) none
abbrev a0R (x:pJ):List qP:=[tv x]
@[go_sem] def a0S:pJ->r9:=λO=>rv [] (GM O) λz=>([bv (((O.length:Int)<=4000)&&(val (vA O)))],[])
@[go_sem] def aNk O:=rI a0R qV a0S O
@[go_sem] abbrev aFL:Nat×r8:=mE 84 [.v] a0R qV a0S
def xe:qZ prog aFL:=
 rJ (rH (qO rY rG) (qS aFz rF)) func84 10 [(2,none)] rfl λE O=>by
  have u0:= @GM.eq_1;exact rM
def KP (O:pJ):(Ja2×Int×Int)->Option ((Ja2×Int×Int)⊕((Ja2×Int)⊕(Ja2×Int×Int))):=fun(a8,aA,aB)=>ite (decide (aA<(O.length:Int))) (ite (((decide ((Int.tmod aB 2)=1))==true)=true->0<=aA/\aA<(O.length:Int)) (ite (((Int.tmod aB 2)=1)&&((((r7 O aA)=32)||((r7 O aA)=9))||((r7 O aA)=10))) (ite (qH (aA+1)) (some (.inl (a8,(aA+1),aB))) none) (rD (σ:=(Int×pJ×Int×Int)) (ite (decide ((Int.tmod aB 2)=1)) ((P9 O aA).bind λaC=>some (aC.1,aC.2.1,aC.2.2.1,aC.2.2.2)) ((PA O aA aB).bind λaD=>some (aD.1,aD.2.1,aD.2.2.1,aD.2.2.2))) fun(aE,aF,aG,aH)=>ite (decide (aE=0)) (some (.inr (.inr (([]:List rE),aA,3)))) (ite (decide (aE=2)) (ite (qH (aB+1)) (ite ((a8.length+([(aE,(aF,(aG,(aH,()))))]:List rE).length)*40<=140737488355328) (some (.inl ((a8++([(aE,(aF,(aG,(aH,()))))]:List rE)),aH,(aB+1)))) none) none) (ite (decide (aE=3)) (ite (qH (aB- 1)) (ite ((a8.length+([(aE,(aF,(aG,(aH,()))))]:List rE).length)*40<=140737488355328) (some (.inl ((a8++([(aE,(aF,(aG,(aH,()))))]:List rE)),aH,(aB- 1)))) none) none) (ite ((a8.length+([(aE,(aF,(aG,(aH,()))))]:List rE).length)*40<=140737488355328) (some (.inl ((a8++([(aE,(aF,(aG,(aH,()))))]:List rE)),aH,aB))) none))))) none) (some (.inr (.inl (a8,aB))))
def PD (O:pJ):Option (Ja2×Int×Int):=ite (decide (4000<(O.length:Int))) (some (([]:List rE),4000,6)) (sK (rC (KP O) (([]:List rE),0,0)) fun(a8,aA)=>ite (decide (0<aA)) (some (([]:List rE),(O.length:Int),3)) (some (a8,0,0)))
abbrev a0T (x:pJ):List qP:=[tv x]
@[go_sem] def a0U:pJ->r9:=λO=>rv [] (PD O) λz=>([(.val (.list sO) (z.1),some 0),iv (z.2.1),iv (z.2.2)],[.grow 228 4 ((z.1).length)])
@[go_sem] def aNl O:=rI a0T qV a0U O
@[go_sem] abbrev aFM:Nat×r8:=mE 151 [.v] a0T qV a0U
def aFN:qZ prog aFM:=
 rJ (rH (qO tO (qO rY (qO dv (qO D6 rG)))) (qS aCh (qS aFB (qS aFD rF)))) func151 62 [(2,none),(3,none),(4,none)] rfl λE O=>by
  have u0:= @PD.eq_1;have u1:= @KP.eq_1
  let l1:LE (KP O):=⟨λx=>⟨[(0,tv O),(5,(.val (.list sO) x.1,some 0)),(6,iv x.2.1),(7,iv x.2.2)],[(0,.grow 228 4 (x.1.length))],1,62,0⟩⟩
  let j1 a8 aA aB:JE 30 (Int×pJ×Int×Int):=⟨λx=>⟨[(0,tv O),(5,(.val (.list sO) a8,some 0)),(6,iv aA),(7,iv aB),(9,rs 1 0)],[(0,.grow 228 4 (a8.length)),(1,.cells sO (x.1,(x.2.1,(x.2.2.1,(x.2.2.2,())))) [])],2,62,0⟩⟩
  let x1:XE (KP O) 0 (Ja2×Int):=⟨λx=>⟨[(0,tv O),(5,(.val (.list sO) x.1,some 0)),(7,iv x.2)],[(0,.grow 228 4 (x.1.length))],1,62,0⟩⟩
  exact rM
attribute [irreducible] P6 P7 vA P9 PA BF TQ PB TR GM PD
end
noncomputable section
abbrev a0V (x:(Int×Bool×s9×Nat)):List qP:=[rs 0 0,iv x.1,bv x.2.1]
abbrev a0W (x:(Int×Bool×s9×Nat)):List qQ:=[.cells tZ x.2.2.1 [(2,1)],.grow 9 1 x.2.2.2]
@[go_sem] def a0X (O:s9->Int->Bool->Option (Ja0×Ja2×pK×Int×Int)):(Int×Bool×s9×Nat)->r9:=fun(a8,aA,aB,aC)=>rv [aC=(aB.2.2.1.length)] (O aB a8 aA) λz=>([(.val (.list .part) (z.1),some 2)],[.cells tZ (z.2.1,(aB.2.1,(z.2.2.1,(z.2.2.2.1,(z.2.2.2.2,()))))) [(2,1)],.grow 9 1 ((z.2.2.1).length),.grow 183 6 ((z.1).length)])
@[go_sem] def aNm (O:s9->Int->Bool->Option (Ja0×Ja2×pK×Int×Int)) a8 aA aB aC:=rI a0V a0W (a0X O) (a8,aA,aB,aC)
@[go_sem] abbrev fk (F:s9->Int->Bool->Option (Ja0×Ja2×pK×Int×Int)):Nat×r8:=mE 152 [.p tZ [2],.v,.v] a0V a0W (a0X F)
abbrev a0Y (x:(Int×Bool×s9×Nat)):List qP:=[rs 0 0,iv x.1,bv x.2.1]
abbrev a0Z (x:(Int×Bool×s9×Nat)):List qQ:=[.cells tZ x.2.2.1 [(2,1)],.grow 9 1 x.2.2.2]
@[go_sem] def a00 (O:s9->Int->Bool->Option (Int×pJ×pJ×Ja1×Ja2×pK×Int×Int)):(Int×Bool×s9×Nat)->r9:=fun(a8,aA,aB,aC)=>rv [aC=(aB.2.2.1.length)] (O aB a8 aA) λz=>([sv sN (z.1,(([]:pJ),(z.2.1,(z.2.2.1,(z.2.2.2.1,(([]:List qG),()))))))],[.cells tZ (z.2.2.2.2.1,(aB.2.1,(z.2.2.2.2.2.1,(z.2.2.2.2.2.2.1,(z.2.2.2.2.2.2.2,()))))) [(2,1)],.grow 9 1 ((z.2.2.2.2.2.1).length)])
@[go_sem] def aNn (O:s9->Int->Bool->Option (Int×pJ×pJ×Ja1×Ja2×pK×Int×Int)) a8 aA aB aC:=rI a0Y a0Z (a00 O) (a8,aA,aB,aC)
@[go_sem] abbrev xf (F:s9->Int->Bool->Option (Int×pJ×pJ×Ja1×Ja2×pK×Int×Int)):Nat×r8:=mE 214 [.p tZ [2],.v,.v] a0Y a0Z (a00 F)
abbrev a01 (x:(Int×Bool×s9×Nat×rR×Nat×Nat)):List qP:=[rs 0 0,rs 2 0,iv x.1,bv x.2.1]
abbrev a02 (x:(Int×Bool×s9×Nat×rR×Nat×Nat)):List qQ:=[.cells tZ x.2.2.1 [(2,1)],.grow 9 1 x.2.2.2.1,.cells sN x.2.2.2.2.1 [(4,3),(5,4)],.grow 186 2 x.2.2.2.2.2.1,.grow 183 6 x.2.2.2.2.2.2]
@[go_sem] def a03 (O:s9->rR->Int->Bool->Option (Ja2×pK×Int×Int×Int×pJ×Ja1)):(Int×Bool×s9×Nat×rR×Nat×Nat)->r9:=fun(a8,aA,aB,aC,aD,aE,aF)=>rv [aC=(aB.2.2.1.length),aE=(aD.2.2.2.2.1.length),aF=(aD.2.2.2.2.2.1.length)] (O aB aD a8 aA) λz=>([],[.cells tZ (z.1,(aB.2.1,(z.2.1,(z.2.2.1,(z.2.2.2.1,()))))) [(2,1)],.grow 9 1 ((z.2.1).length),.cells sN (z.2.2.2.2.1,(aD.2.1,(aD.2.2.1,(z.2.2.2.2.2.1,(z.2.2.2.2.2.2,(aD.2.2.2.2.2.1,())))))) [(4,3),(5,4)],.grow 186 2 ((z.2.2.2.2.2.2).length),.grow 183 6 (aD.2.2.2.2.2.1.length)])
@[go_sem] def aNo (O:s9->rR->Int->Bool->Option (Ja2×pK×Int×Int×Int×pJ×Ja1)) a8 aA aB aC aD aE aF:=rI a01 a02 (a03 O) (a8,aA,aB,aC,aD,aE,aF)
@[go_sem] abbrev xg (F:s9->rR->Int->Bool->Option (Ja2×pK×Int×Int×Int×pJ×Ja1)):Nat×r8:=mE 267 [.p tZ [2],.p sN [4,5],.v,.v] a01 a02 (a03 F) [] [4]
abbrev a04 (x:(Int×Bool×s9×Nat×rR×Nat×Nat)):List qP:=[rs 0 0,rs 2 0,iv x.1,bv x.2.1]
abbrev a05 (x:(Int×Bool×s9×Nat×rR×Nat×Nat)):List qQ:=[.cells tZ x.2.2.1 [(2,1)],.grow 9 1 x.2.2.2.1,.cells sN x.2.2.2.2.1 [(4,3),(5,4)],.grow 186 2 x.2.2.2.2.2.1,.grow 183 6 x.2.2.2.2.2.2]
@[go_sem] def a06 (O:s9->rR->Int->Bool->Option (Ja2×pK×Int×Int×Ja1)):(Int×Bool×s9×Nat×rR×Nat×Nat)->r9:=fun(a8,aA,aB,aC,aD,aE,aF)=>rv [aC=(aB.2.2.1.length),aE=(aD.2.2.2.2.1.length),aF=(aD.2.2.2.2.2.1.length)] (O aB aD a8 aA) λz=>([],[.cells tZ (z.1,(aB.2.1,(z.2.1,(z.2.2.1,(z.2.2.2.1,()))))) [(2,1)],.grow 9 1 ((z.2.1).length),.cells sN (aD.1,(aD.2.1,(aD.2.2.1,(aD.2.2.2.1,(z.2.2.2.2,(aD.2.2.2.2.2.1,())))))) [(4,3),(5,4)],.grow 186 2 ((z.2.2.2.2).length),.grow 183 6 (aD.2.2.2.2.2.1.length)])
@[go_sem] def aNp (O:s9->rR->Int->Bool->Option (Ja2×pK×Int×Int×Ja1)) a8 aA aB aC aD aE aF:=rI a04 a05 (a06 O) (a8,aA,aB,aC,aD,aE,aF)
@[go_sem] abbrev xh (F:s9->rR->Int->Bool->Option (Ja2×pK×Int×Int×Ja1)):Nat×r8:=mE 296 [.p tZ [2],.p sN [4,5],.v,.v] a04 a05 (a06 F) [] [4]
end
end Go.Proofs.YtedimeeleabhnaaGreatDoor
