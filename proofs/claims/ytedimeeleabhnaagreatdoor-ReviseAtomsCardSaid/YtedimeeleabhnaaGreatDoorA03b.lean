import Derived.Test.YtedimeeleabhnaaGreatDoorA03a
set_option linter.all false
set_option maxRecDepth 100000
set_option maxHeartbeats 4000000
namespace Go.Proofs.YtedimeeleabhnaaGreatDoor
open Vc
open Tryz
noncomputable section
def T5 (O:pI):Option (pI×Int×Int):=(O2 O).bind λa8=>ite (decide (a8<(O.length:Int))) (some (([]:pI),a8,3)) (rA (rC (OL O) (0,([]:pT))) λaA=>some ((tQ aA),0,0))
abbrev Yd (x:pI):List qK:=[tv x]
@[go_sem] def Ye:pI->r8:=λO=>rv [] (T5 O) λz=>([tv (z.1),iv (z.2.1),iv (z.2.2)],[])
@[go_sem] def aLy O:=rF Yd qU Ye O
@[go_sem] abbrev aDT:Nat×r7:=mE 194 [.v] Yd qU Ye
def aDU:qW prog aDT:=
 rI (rH (qO rX (qO WA rG)) (qQ Uy (qQ Ou (qQ dl rE)))) func194 32 [(2,none),(3,none),(4,none)] rfl λE O=>by
  have u0:= @T5.eq_1;have u1:= @OL.eq_1
  let l1:LE (OL O):=⟨λx=>⟨[(0,tv O),(6,rs 0 0),(7,iv x.1)],[(0,.cells vA ((some (0,0)),(x.2,())) [(1,1)]),(1,.grow 5 1 (x.2.length))],2,32,0⟩⟩
  let x1:XE (OL O) 0 pT:=⟨λx=>⟨[(6,rs 0 0)],[(0,.cells vA ((some (0,0)),(x,())) [(1,1)]),(1,.grow 5 1 (x.length))],2,32,0⟩⟩
  exact rK
def T7 (O:rP) (a8:Bool):Option Bool:=rA (σ:=(Bool×pI×pI×pI)) (ite (decide (O.1=1)) (some ((!decide (O.2.1=([]:pI))),O.2.1,([]:pI),([]:pI))) (ite (decide (O.1=10)) (some (a8,([]:pI),([]:pI),([]:pI))) (ite (decide (O.1=2)) ((vS O.2.2.1).bind λaA=>some (aA,([]:pI),O.2.2.1,([]:pI))) (rA (σ:=Bool) (ite (decide (O.1=3)) (some (decide (O.1=3))) (ite (decide (O.1=4)) (some (decide (O.1=4))) (ite (decide (O.1=5)) (some (decide (O.1=5))) (some (decide (O.1=6)))))) λaB=>ite aB ((vS O.2.2.1).bind λaC=>ite (decide (O.1=3)) (some ((aC&&(((O.2.2.2.1=([]:pI))||(O.2.2.2.1=([105,110,116,101,103,101,114]:pI)))||(O.2.2.2.1=([112,101,114,99,101,110,116]:pI)))),([]:pI),O.2.2.1,O.2.2.2.1)) (ite (decide (O.1=5)) (ite ((aC==true)=true->(EA O.2.2.2.1).isSome=true) (some ((aC&&(val (EA O.2.2.2.1))),([]:pI),O.2.2.1,O.2.2.2.1)) none) (ite ((aC==true)=true->(vS O.2.2.2.1).isSome=true) (some ((aC&&(val (vS O.2.2.2.1))),([]:pI),O.2.2.1,O.2.2.2.1)) none))) (some (false,([]:pI),([]:pI),([]:pI))))))) fun(aD,aE,aF,aG)=>some (((((aD&&((O.2.2.2.2.1.length:Int)=0))&&((O.2.2.2.2.2.1.length:Int)=0))&&(O.2.1=aE))&&(O.2.2.1=aF))&&(O.2.2.2.1=aG))
abbrev Yh (x:(rP×Bool)):List qK:=[sv sM x.1,bv x.2]
@[go_sem] def Yi:(rP×Bool)->r8:=fun(O,a8)=>rv [] (T7 O a8) λz=>([bv z],[])
@[go_sem] def aLA O a8:=rF Yh qU Yi (O,a8)
@[go_sem] abbrev aDW:Nat×r7:=mE 220 [.v,.v] Yh qU Yi
def aDX:qW prog aDW:=
 rI (rH (qO tN (qO rX (qO uT (qO yK (qO uY rG))))) (qQ T6 (qQ Qg rE))) func220 113 [(4,none)] rfl λE ⟨O,a8⟩=>by
  have u0:= @T7.eq_1
  let j1:JE 0 (Bool×pI×pI×pI):=⟨λx=>⟨[(2,rs 0 0),(5,rs 1 0),(6,bv x.1)],[(0,.cells sM O []),(1,.cells sM (O.1,(x.2.1,(x.2.2.1,(x.2.2.2,(([]:List qS),(([]:List qF),())))))) [(4,2),(5,3)]),(2,.grow 186 2 (([]:List qS).length)),(3,.grow 183 6 (([]:List qF).length))],4,113,0⟩⟩
  let j2:JE 31 Bool:=⟨λx=>⟨[(2,rs 0 0),(5,rs 1 0),(6,bv false),(31,bv x)],[(0,.cells sM O []),(1,.cells sM (O.1,(([]:pI),(([]:pI),(([]:pI),(([]:List qS),(([]:List qF),())))))) [(4,2),(5,3)]),(2,.grow 186 2 (([]:List qS).length)),(3,.grow 183 6 (([]:List qF).length))],4,113,0⟩⟩
  exact rK
def K4 (O:pI) (a8:Ja2) (aA:Int) (aB:pQ) (aC:pR):Option (pI×Int×Int×Int×pR):=(vQ O a8 aA aB aC).bind λaD=>ite (((decide (aD=9))==true)=true->0<=aA/\aA<(a8.length:Int)) (ite (((decide (aD=9))==true)=true->(AL ((qH sN a8 aA).2.1)).isSome=true) (ite ((((aD=9)&&(val (AL ((qH sN a8 aA).2.1))))==true)=true->0<=aA/\aA<(a8.length:Int)) (rA (σ:=(Int×Int)) (ite ((((aD=9)&&(val (AL ((qH sN a8 aA).2.1))))&&(!(sE .str .bool aC ((qH sN a8 aA).2.1))))&&(20<=(aC.length:Int))) ((vR O a8 aA aB 6 aC).bind λaE=>some (aE.1,aE.2)) (some (aB.1,aB.2.1))) fun(aF,aG)=>(C5 O a8 aA (aF,(aG,())) aC).bind λaH=>ite (!decide (aH.1=([]:pI))) (some (aH.1,aH.2.1,aH.2.2.1,aH.2.2.2,(rL .str .bool aH.1 true aC))) (some (aH.1,aH.2.1,aH.2.2.1,aH.2.2.2,aC))) none) none) none
abbrev Yj (x:(pI×Ja2×Int×pQ×pR)):List qK:=[rs 0 0]
abbrev Yk (x:(pI×Ja2×Int×pQ×pR)):List qP:=[.cells tG (x.1,(x.2.1,(x.2.2.1,((some 1),x.2.2.2.1)))) [],.map .str .bool x.2.2.2.2]
@[go_sem] def Yl:(pI×Ja2×Int×pQ×pR)->r8:=fun(O,a8,aA,aB,aC)=>rv [] (K4 O a8 aA aB aC) λz=>([tv (z.1)],[.cells tG (O,(a8,(z.2.1,((some 1),(z.2.2.1,(z.2.2.2.1,())))))) [],.map .str .bool (z.2.2.2.2)])
@[go_sem] def aLB O a8 aA aB aC:=rF Yj Yk Yl (O,a8,aA,aB,aC)
@[go_sem] abbrev aDY:Nat×r7:=mE 252 [.p tG []] Yj Yk Yl [(0,3,.m)] []
def ew:qW prog aDY:=
 rI (rH (qO tN (qO FV (qO rX (qO MW (qO zY (qO zD (qO AJ rG))))))) (qQ C2 (qQ WX (qQ EC (qQ Wy rE))))) func252 60 [(2,none)] rfl λE ⟨O,a8,aA,aB,aC⟩=>by
  have u0:= @K4.eq_1
  let j1:JE 47 (Int×Int):=⟨λx=>⟨[(0,rs 0 0)],[(0,.cells tG (O,(a8,(aA,((some 1),(x.1,(x.2,())))))) []),(1,.map .str .bool aC)],2,60,2⟩⟩
  exact rK
def Ym (O:Int):Unit:=()
abbrev Yn (x:Int):List qK:=[sv (.int .u8) x]
@[go_sem] def Yo:Int->r8:=λO=>⟨[],[bv ((((((((97<=O)&&(O<=122))||((65<=O)&&(O<=90)))||((48<=O)&&(O<=57)))||(O=95))||(O=45))||(O=46))||(O=61))],[]⟩
@[go_sem] def aLC O:=rF Yn qU Yo O
@[go_sem] abbrev aDZ:Nat×r7:=mE 263 [.v] Yn qU Yo
def aD0:qW prog aDZ:=
 rI (rH rG (qQ um rE)) func263 13 [(2,none)] rfl λE O=>by
  have u0:= @Ym.eq_1;have q0: ∃z,(Ym O)=z:=⟨_,rfl⟩;exact wZ
def OM (O:pI):Int->Option (Int⊕Int):=λa8=>ite (((decide (a8<(O.length:Int)))==true)=true->0<=a8/\a8<(O.length:Int)) (ite ((a8<(O.length:Int))&&((((((97<=(qZ O a8))&&((qZ O a8)<=122))||((65<=(qZ O a8))&&((qZ O a8)<=90)))||((48<=(qZ O a8))&&((qZ O a8)<=57)))||((qZ O a8)=95))||((qZ O a8)=45))) (ite (qG (a8+1)) (some (.inl (a8+1))) none) (some (.inr a8))) none
def T8 (O:pI) (a8:Int):Option (Int×pI×Int×Int):=ite (qG (a8+1)) (ite (((decide ((a8+1)<(O.length:Int)))==true)=true->0<=(a8+1)/\(a8+1)<(O.length:Int)) (rA (σ:=(Int×Int)) (ite (((a8+1)<(O.length:Int))&&((qZ O (a8+1))=47)) (ite (qG ((a8+1)+1)) (some (6,((a8+1)+1))) none) (some (5,(a8+1)))) fun(aA,aB)=>rA (rC (OM O) aB) λaC=>ite (0<=(min aB (O.length:Int))/\(min aB (O.length:Int))<=aC/\aC<=(O.length:Int)) (ite ((((aA=5)&&(aC<(O.length:Int)))==true)=true->0<=aC/\aC<(O.length:Int)) (rA (σ:=(Int×Int)) (ite (((aA=5)&&(aC<(O.length:Int)))&&((qZ O aC)=47)) (ite (qG (aC+1)) (some (7,(aC+1))) none) (some (aA,aC))) fun(aD,aE)=>ite (0<=a8/\a8<(O.length:Int)) (ite (((!decide ((qZ O a8)=60))==false)=true->(vS (s8 O (min aB (O.length:Int)) aC)).isSome=true) (ite (((((!decide ((qZ O a8)=60))||(!(val (vS (s8 O (min aB (O.length:Int)) aC)))))||((O.length:Int)<=aE))==false)=true->0<=aE/\aE<(O.length:Int)) (ite ((((!decide ((qZ O a8)=60))||(!(val (vS (s8 O (min aB (O.length:Int)) aC)))))||((O.length:Int)<=aE))||(!decide ((qZ O aE)=62))) (some (0,([]:pI),0,0)) (ite (qG (aE+1)) (some (aD,(s8 O (min aB (O.length:Int)) aC),a8,(aE+1))) none)) none) none) none) none) none) none) none
abbrev Yp (x:(pI×Int)):List qK:=[tv x.1,iv x.2]
@[go_sem] def Yq:(pI×Int)->r8:=fun(O,a8)=>rv [] (T8 O a8) λz=>([sv sN (z.1,(z.2.1,(z.2.2.1,(z.2.2.2,()))))],[])
@[go_sem] def aLD O a8:=rF Yp qU Yq (O,a8)
@[go_sem] abbrev aD1:Nat×r7:=mE 265 [.v,.v] Yp qU Yq
def aD2:qW prog aD1:=
 rI (rH (qO rX (qO D4 rG)) (qQ um (qQ T6 rE))) func265 87 [(4,some 228)] rfl λE ⟨O,a8⟩=>by
  have u0:= @T8.eq_1;have u1:= @OM.eq_1
  let l1 aA aB:LE (OM O):=⟨λx=>⟨[(0,tv O),(1,iv a8),(4,rs 0 0),(5,iv aA),(6,iv aB),(7,iv x)],[(0,.cells sN (0,(([]:pI),(0,(0,())))) [])],1,87,0⟩⟩
  let j1:JE 20 (Int×Int):=⟨λx=>⟨[(0,tv O),(1,iv a8),(4,rs 0 0),(5,iv x.1),(6,iv x.2)],[(0,.cells sN (0,(([]:pI),(0,(0,())))) [])],1,87,0⟩⟩
  let j2 aB aC:JE 56 (Int×Int):=⟨λx=>⟨[(0,tv O),(1,iv a8),(4,rs 0 0),(5,iv x.1),(7,iv x.2),(8,tv (s8 O (min aB (O.length:Int)) aC))],[(0,.cells sN (0,(([]:pI),(0,(0,())))) [])],1,87,0⟩⟩
  let x1 aA aB:XE (OM O) 0 Int:=⟨λx=>⟨[(0,tv O),(1,iv a8),(4,rs 0 0),(5,iv aA),(6,iv aB),(7,iv x)],[(0,.cells sN (0,(([]:pI),(0,(0,())))) [])],1,87,0⟩⟩
  exact rK
def ON (O:s9):Option (pI×Ja2×pJ×Int×Int):=(vD O).bind λa8=>(vD O).bind λaA=>ite (((decide (aA.1=9))==true)=true->(vS a8.2.1).isSome=true) (ite ((((aA.1=9)&&(val (vS a8.2.1)))==true)=true->(yY O.2.2.1 a8.2.1).isSome=true) (ite (((aA.1=9)&&(val (vS a8.2.1)))&&(!(val (yY O.2.2.1 a8.2.1)))) (rA (σ:=(Int×Int)) (ite (decide (20<=(O.2.2.1.length:Int))) ((xS O 6).bind λaB=>some (aB.1,aB.2)) (some (O.2.2.2.1,O.2.2.2.2.1))) fun(aC,aD)=>ite ((O.2.2.1.length+([a8.2.1]:pJ).length)*16<=140737488355328) ((vS a8.2.1).bind λaE=>(vM (O.1,(O.2.1,((O.2.2.1++([a8.2.1]:pJ)),(aC,(aD,()))))) aE).bind λaF=>some (aF.1,aF.2.1,(O.2.2.1++([a8.2.1]:pJ)),aF.2.2.1,aF.2.2.2)) none) ((vS a8.2.1).bind λaG=>(vM O aG).bind λaH=>some (aH.1,aH.2.1,O.2.2.1,aH.2.2.1,aH.2.2.2))) none) none
abbrev Yr (x:(s9×Nat)):List qK:=[rs 0 0]
abbrev Ys (x:(s9×Nat)):List qP:=[.cells tW x.1 [(2,1)],.grow 9 1 x.2]
@[go_sem] def Yt:(s9×Nat)->r8:=fun(O,a8)=>rv [a8=(O.2.2.1.length)] (ON O) λz=>([tv (z.1)],[.cells tW (z.2.1,(O.2.1,(z.2.2.1,(z.2.2.2.1,(z.2.2.2.2,()))))) [(2,1)],.grow 9 1 ((z.2.2.1).length)])
@[go_sem] def aLE O a8:=rF Yr Ys Yt (O,a8)
@[go_sem] abbrev aD3:Nat×r7:=mE 266 [.p tW [2]] Yr Ys Yt
def aD4:qW prog aD3:=
 rI (rH (qO vC (qO HI (qO D4 rG))) (qQ JQ (qQ T6 (qQ dr (qQ NV (qQ uo rE)))))) func266 46 [(2,none)] rfl λE ⟨O,a8⟩=>by
  have u0:= @ON.eq_1
  let j1 (aA:(Int×pI×Int×Int)):JE 29 (Int×Int):=⟨λx=>⟨[(0,rs 0 0),(3,tv aA.2.1)],[(0,.cells tW (O.1,(O.2.1,(O.2.2.1,(x.1,(x.2,()))))) [(2,1)]),(1,.grow 9 1 (O.2.2.1.length))],2,46,2⟩⟩
  exact rK
def OE (O:pI):Option Bool:=(WY O).bind λa8=>some (a8.2.2.2)
abbrev Wg (x:pI):List qK:=[tv x]
@[go_sem] def Wh:pI->r8:=λO=>rv [] (OE O) λz=>([bv z],[])
@[go_sem] def aLh O:=rF Wg qU Wh O
@[go_sem] abbrev aDn:Nat×r7:=mE 271 [.v] Wg qU Wh
def aDo:qW prog aDn:=
 rI (rH (qO Ki rG) (qQ aC1 rE)) func271 11 [(2,none)] rfl λE O=>by
  have u0:= @OE.eq_1;exact rK
def T9 (O:pI) (a8:pI):Option (pI×Bool):=(WZ O a8).bind λaA=>some (aA.1,aA.2)
abbrev Yu (x:(pI×pI)):List qK:=[tv x.1,tv x.2]
@[go_sem] def Yv:(pI×pI)->r8:=fun(O,a8)=>rv [] (T9 O a8) λz=>([tv (z.1),bv (z.2)],[])
@[go_sem] def aLF O a8:=rF Yu qU Yv (O,a8)
@[go_sem] abbrev aD5:Nat×r7:=mE 291 [.v,.v] Yu qU Yv
def aD6:qW prog aD5:=
 rI (rH rG (qQ aC3 rE)) func291 11 [(4,none),(5,none)] rfl λE ⟨O,a8⟩=>by
  have u0:= @T9.eq_1;exact rK
def X9 (O:pI):Option (Bool×pI×pI×Bool):=(G6 O ([45]:pI)).bind λa8=>(O3 a8.1 ([46]:pI)).bind λaA=>ite (((((aA.1.length:Int)<1)||(15<(aA.1.length:Int)))==false)=true->(HN aA.1).isSome=true) (ite (((((((aA.1.length:Int)<1)||(15<(aA.1.length:Int)))||(!((Lib.trimS aA.1 ([48,49,50,51,52,53,54,55,56,57]:pI))=([]:pI))))==false)&&((decide (1<(aA.1.length:Int)))==true))=true->0<=(0:Int)/\0<(aA.1.length:Int)) (ite (((((aA.1.length:Int)<1)||(15<(aA.1.length:Int)))||(!((Lib.trimS aA.1 ([48,49,50,51,52,53,54,55,56,57]:pI))=([]:pI))))||((1<(aA.1.length:Int))&&((qZ aA.1 0)=48))) (some (a8.2,aA.1,aA.2.1,false)) (ite ((((aA.2.2&&((aA.2.1.length:Int)=0))||(6<(aA.2.1.length:Int)))==false)=true->(HN aA.2.1).isSome=true) (ite (((aA.2.2&&((aA.2.1.length:Int)=0))||(6<(aA.2.1.length:Int)))||(!((Lib.trimS aA.2.1 ([48,49,50,51,52,53,54,55,56,57]:pI))=([]:pI)))) (some (a8.2,aA.1,aA.2.1,false)) (ite (((!a8.2)==false)=true->(O5 (a8.2,(aA.1,(aA.2.1,())))).isSome=true) (some (a8.2,aA.1,aA.2.1,((!a8.2)||(!(((Lib.trimS aA.1 ([48]:pI))=([]:pI))&&((Lib.trimS aA.2.1 ([48]:pI))=([]:pI))))))) none)) none)) none) none
abbrev Yy (x:pI):List qK:=[tv x]
@[go_sem] def Yz:pI->r8:=λO=>rv [] (X9 O) λz=>([sv D1 (z.1,(z.2.1,(z.2.2.1,()))),bv (z.2.2.2)],[])
@[go_sem] def aLH O:=rF Yy qU Yz O
@[go_sem] abbrev aD9:Nat×r7:=mE 325 [.v] Yy qU Yz
def aEa:qW prog aD9:=
 rI (rH (qO rX (qO tq rG)) (qQ ul (qQ aCV (qQ aBU (qQ aC5 rE))))) func325 76 [(2,some 300),(3,none)] rfl λE O=>by
  have u0:= @X9.eq_1;exact rK
def v6 (O:pI):Option Bool:=(T4 O).bind λa8=>(SG a8).bind λaA=>some (decide (aA=O))
abbrev Zn (x:pI):List qK:=[tv x]
@[go_sem] def Zo:pI->r8:=λO=>rv [] (v6 O) λz=>([bv z],[])
@[go_sem] def aLN O:=rF Zn qU Zo O
@[go_sem] abbrev aEi:Nat×r7:=mE 126 [.v] Zn qU Zo
def aEj:qW prog aEi:=
 rI (rH rG (qQ aDS (qQ aCI rE))) func126 8 [(2,none)] rfl λE O=>by
  have u0:= @v6.eq_1;exact rK
attribute [irreducible] T5 T7 K4 T8 ON OE T9 X9 v6
end
noncomputable section
def OO (O:pJ):Int->Option (Int⊕(Unit⊕Int)):=λa8=>ite (decide (a8<(O.length:Int))) (ite (0<=a8/\a8<(O.length:Int)) ((X5 (qH .str O a8)).bind λaA=>ite (!((((qH .str O a8).length:Int)<=4000)&&(Lib.validD (qH .str O a8)))) (some (.inr (.inr (a8)))) (ite (qG (a8+1)) (some (.inl (a8+1))) none)) none) (some (.inr (.inl ())))
def X8 (O:pJ):Option Int:=sK (rC (OO O) 0) λ_=>some (-1:Int)
abbrev Yw (x:pJ):List qK:=[sv (.list .str) x,sv .clo (some (87,[]))]
@[go_sem] def Yx:pJ->r8:=λO=>rv [] (X8 O) λz=>([iv z],[])
@[go_sem] def aLG O:=rF Yw qU Yx O
@[go_sem] abbrev aD7:Nat×r7:=mE 127 [.v,.v] Yw qU Yx
def aD8:qW prog aD7:=
 rI (rH (qO rX (qO vC rG)) (qQ aDm rE)) func127 19 [(4,none)] rfl λE O=>by
  have u0:= @X8.eq_1;have u1:= @OO.eq_1
  let l1:LE (OO O):=⟨λx=>⟨[(0,sv (.list .str) O),(1,sv .clo (some (87,[]))),(7,iv (O.length:Int)),(8,iv x)],[],0,19,0⟩⟩
  let x1:XE (OO O) 0 Unit:=⟨λ_=>⟨[],[],0,19,0⟩⟩
  exact rK
def D8 (O:pJ):Option Bool:=(X8 O).bind λa8=>some (decide (0<=a8))
abbrev Za (x:pJ):List qK:=[sv (.list .str) x,sv .clo (some (87,[]))]
@[go_sem] def Zb:pJ->r8:=λO=>rv [] (D8 O) λz=>([bv z],[])
@[go_sem] def aLI O:=rF Za qU Zb O
@[go_sem] abbrev aEb:Nat×r7:=mE 86 [.v,.v] Za qU Zb
def aEc:qW prog aEb:=
 rI (rH rG (qQ aD8 rE)) func86 9 [(4,none)] rfl λE O=>by
  have u0:= @D8.eq_1;exact rK
def OP (O:pJ):(pJ×Int)->Option ((pJ×Int)⊕pJ):=fun(a8,aA)=>ite (decide (aA<(O.length:Int))) (ite (0<=aA/\aA<(O.length:Int)) ((SZ 2 (qH .str O aA)).bind λaB=>ite (((([34]:pI)++aB).length:Int)<=9223372036854775807) (ite ((((([34]:pI)++aB)++([34]:pI)).length:Int)<=9223372036854775807) (ite ((a8.length+([((([34]:pI)++aB)++([34]:pI))]:pJ).length)*16<=140737488355328) (ite (qG (aA+1)) (some (.inl ((a8++([((([34]:pI)++aB)++([34]:pI))]:pJ)),(aA+1)))) none) none) none) none) none) (some (.inr a8))
def OQ (O:pJ):Option pI:=rA (rC (OP O) (([]:pJ),0)) λa8=>ite (a8.length<=140737488355328/\List.length (F2 a8 ([32]:pI))<=140737488355328) (some (F2 a8 ([32]:pI))) none
abbrev Zc (x:pJ):List qK:=[sv (.list .str) x]
@[go_sem] def Zd:pJ->r8:=λO=>rv [] (OQ O) λz=>([tv z],[])
@[go_sem] def aLJ O:=rF Zc qU Zd O
@[go_sem] abbrev aEd:Nat×r7:=mE 33 [.v] Zc qU Zd
def Ze:qW prog aEd:=
 rI (rH (qO rX (qO vC rG)) (qQ aDJ (qQ Kt rE))) func33 22 [(2,none)] rfl λE O=>by
  have u0:= @OQ.eq_1;have u1:= @OP.eq_1
  let l1:LE (OP O):=⟨λx=>⟨[(3,(.val (.list .str) x.1,some 0)),(6,sv (.list .str) O),(7,iv (O.length:Int)),(8,iv x.2)],[(0,.grow 9 1 (x.1.length))],1,22,0⟩⟩
  let x1:XE (OP O) 0 pJ:=⟨λx=>⟨[(3,(.val (.list .str) x,some 0))],[(0,.grow 9 1 (x.length))],1,22,0⟩⟩
  exact rK
def K5 (O:pJ):(pI×Int)->Option ((pI×Int)⊕pI):=fun(a8,aA)=>ite (decide (aA<(O.length:Int))) (rA (σ:=pI) (ite (decide (0<aA)) (ite (((a8++([32]:pI)).length:Int)<=9223372036854775807) (some (a8++([32]:pI))) none) (some (a8))) λaB=>ite (((aB++([34]:pI)).length:Int)<=9223372036854775807) (ite (0<=aA/\aA<(O.length:Int)) ((T0 2 (qH .str O aA)).bind λaC=>ite ((((aB++([34]:pI))++aC).length:Int)<=9223372036854775807) (ite (((((aB++([34]:pI))++aC)++([34]:pI)).length:Int)<=9223372036854775807) (ite (qG (aA+1)) (some (.inl ((((aB++([34]:pI))++aC)++([34]:pI)),(aA+1)))) none) none) none) none) none) (some (.inr a8))
def OR (O:pJ):Option pI:=rA (rC (K5 O) (([]:pI),0)) λa8=>some (a8)
abbrev Zf (x:pJ):List qK:=[sv (.list .str) x]
@[go_sem] def Zg:pJ->r8:=λO=>rv [] (OR O) λz=>([tv z],[])
@[go_sem] def aLK O:=rF Zf qU Zg O
@[go_sem] abbrev aEe:Nat×r7:=mE 36 [.v] Zf qU Zg
def Zh:qW prog aEe:=
 rI (rH (qO rX (qO vC rG)) (qQ aDL rE)) func36 25 [(2,none)] rfl λE O=>by
  have u0:= @OR.eq_1;have u1:= @K5.eq_1
  let l1:LE (K5 O):=⟨λx=>⟨[(0,sv (.list .str) O),(3,tv x.1),(4,iv x.2)],[],0,25,0⟩⟩
  let j1 a8:JE 12 pI:=⟨λx=>⟨[(0,sv (.list .str) O),(3,tv x),(4,iv a8)],[],0,25,0⟩⟩
  let x1:XE (K5 O) 0 pI:=⟨λx=>⟨[(3,tv x)],[],0,25,0⟩⟩
  exact rK
def OS (O:pJ):Option Unit:=ite (((decide ((O.length:Int)<=20))==true)=true->(D8 O).isSome=true) (some (())) none
abbrev Zi (x:pJ):List qK:=[sv (.list .str) x]
@[go_sem] def Zj:pJ->r8:=λO=>rv [] (OS O) λz=>([bv (((O.length:Int)<=20)&&(!(val (D8 O))))],[])
@[go_sem] def aLL O:=rF Zi qU Zj O
@[go_sem] abbrev aEf:Nat×r7:=mE 55 [.v] Zi qU Zj
def Zk:qW prog aEf:=
 rI (rH (qO vC rG) (qQ aEc rE)) func55 11 [(2,none)] rfl λE O=>by
  have u0:= @OS.eq_1;exact rK
def OT (O:w7):Option Bool:=ite ((((O.1=([]:pI))||(200<(O.1.length:Int)))==false)=true->(G4 O.1).isSome=true) (ite (((((O.1=([]:pI))||(200<(O.1.length:Int)))||(!(((O.1.length:Int)<=4000)&&(Lib.validD O.1))))||(O.2.2.2.2.2.1<0))||(4<O.2.2.2.2.2.1)) (some (false)) ((G4 O.2.1).bind λa8=>ite (((((O.2.1.length:Int)<=4000)&&(Lib.validD O.2.1))==true)=true->(G4 O.2.2.1).isSome=true) (ite ((((((O.2.1.length:Int)<=4000)&&(Lib.validD O.2.1))&&(((O.2.2.1.length:Int)<=4000)&&(Lib.validD O.2.2.1)))==true)=true->(OS O.2.2.2.1).isSome=true) (ite (((((((O.2.1.length:Int)<=4000)&&(Lib.validD O.2.1))&&(((O.2.2.1.length:Int)<=4000)&&(Lib.validD O.2.2.1)))&&(((O.2.2.2.1.length:Int)<=20)&&(!(val (D8 O.2.2.2.1)))))==true)=true->(JO O.2.2.2.2.1).isSome=true) (ite ((((((((O.2.1.length:Int)<=4000)&&(Lib.validD O.2.1))&&(((O.2.2.1.length:Int)<=4000)&&(Lib.validD O.2.2.1)))&&(((O.2.2.2.1.length:Int)<=20)&&(!(val (D8 O.2.2.2.1)))))&&(val (JO O.2.2.2.2.1)))==true)=true->(HU O.2.2.2.2.2.2.1).isSome=true) (some (((((((O.2.1.length:Int)<=4000)&&(Lib.validD O.2.1))&&(((O.2.2.1.length:Int)<=4000)&&(Lib.validD O.2.2.1)))&&(((O.2.2.2.1.length:Int)<=20)&&(!(val (D8 O.2.2.2.1)))))&&(val (JO O.2.2.2.2.1)))&&(val (HU O.2.2.2.2.2.2.1)))) none) none) none) none)) none
abbrev Zl (x:w7):List qK:=[sv tJ x]
@[go_sem] def Zm:w7->r8:=λO=>rv [] (OT O) λz=>([bv z],[])
@[go_sem] def aLM O:=rF Zl qU Zm O
@[go_sem] abbrev aEg:Nat×r7:=mE 57 [.v] Zl qU Zm
def aEh:qW prog aEg:=
 rI (rH (qO tN (qO rX (qO vC (qO D3 (qO D2 rG))))) (qQ uk (qQ Zk (qQ aAS (qQ Xb rE))))) func57 51 [(2,none)] rfl λE O=>by
  have u0:= @OT.eq_1;exact rK
def OU (O:pI):Int->Option (Int⊕Int):=λa8=>ite (((decide (a8<(O.length:Int)))==true)=true->0<=a8/\a8<(O.length:Int)) (ite ((a8<(O.length:Int))&&((((((((97<=(qZ O a8))&&((qZ O a8)<=122))||((65<=(qZ O a8))&&((qZ O a8)<=90)))||((48<=(qZ O a8))&&((qZ O a8)<=57)))||((qZ O a8)=95))||((qZ O a8)=45))||((qZ O a8)=46))||((qZ O a8)=61))) (ite (qG (a8+1)) (some (.inl (a8+1))) none) (some (.inr a8))) none
def OV (O:pI) (a8:Int):Option (Int×pI×Int×Int):=rA (rC (OU O) a8) λaA=>ite (decide (a8<aA)) (ite (0<=a8/\a8<=aA/\aA<=(O.length:Int)) (some (9,(s8 O a8 aA),a8,aA)) none) (ite (0<=a8/\a8<(O.length:Int)) (ite (decide ((qZ O a8)=123)) (ite (qG (a8+1)) (some (2,([123]:pI),a8,(a8+1))) none) (ite (0<=a8/\a8<(O.length:Int)) (ite (decide ((qZ O a8)=125)) (ite (qG (a8+1)) (some (3,([125]:pI),a8,(a8+1))) none) (ite (0<=a8/\a8<(O.length:Int)) (ite (decide ((qZ O a8)=44)) (ite (qG (a8+1)) (some (8,([44]:pI),a8,(a8+1))) none) (some (0,([]:pI),0,0))) none)) none)) none)
abbrev Zp (x:(pI×Int)):List qK:=[tv x.1,iv x.2]
@[go_sem] def Zq:(pI×Int)->r8:=fun(O,a8)=>rv [] (OV O a8) λz=>([sv sN (z.1,(z.2.1,(z.2.2.1,(z.2.2.2,()))))],[])
@[go_sem] def aLO O a8:=rF Zp qU Zq (O,a8)
@[go_sem] abbrev aEk:Nat×r7:=mE 208 [.v,.v] Zp qU Zq
def aEl:qW prog aEk:=
 rI (rH (qO rX (qO D4 rG)) (qQ aD0 rE)) func208 58 [(4,some 228)] rfl λE ⟨O,a8⟩=>by
  have u0:= @OV.eq_1;have u1:= @OU.eq_1
  let l1:LE (OU O):=⟨λx=>⟨[(0,tv O),(1,iv a8),(4,rs 0 0),(5,iv x)],[(0,.cells sN (0,(([]:pI),(0,(0,())))) [])],1,58,0⟩⟩
  let x1:XE (OU O) 0 Int:=⟨λx=>⟨[(0,tv O),(1,iv a8),(4,rs 0 0),(5,iv x)],[(0,.cells sN (0,(([]:pI),(0,(0,())))) [])],1,58,0⟩⟩
  exact rK
def OW (O:pI) (a8:Int) (aA:Int):Option (Int×pI×Int×Int):=(S3 O a8).bind λaB=>ite (decide (a8<aB)) (ite (0<=a8/\a8<=aB/\aB<=(O.length:Int)) (some (1,(s8 O a8 aB),a8,aB)) none) (ite (0<=a8/\a8<(O.length:Int)) (ite (decide ((qZ O a8)=123)) (ite (qG (a8+1)) (some (2,([123]:pI),a8,(a8+1))) none) (ite (0<=a8/\a8<(O.length:Int)) (ite (((qZ O a8)=125)&&(0<aA)) (ite (qG (a8+1)) (some (3,([125]:pI),a8,(a8+1))) none) (ite (0<=a8/\a8<(O.length:Int)) (ite (decide ((qZ O a8)=35)) (ite (qG (a8+1)) (some (4,([35]:pI),a8,(a8+1))) none) ((T8 O a8).bind λaC=>some (aC.1,aC.2.1,aC.2.2.1,aC.2.2.2))) none)) none)) none)
abbrev Zr (x:(pI×Int×Int)):List qK:=[tv x.1,iv x.2.1,iv x.2.2]
@[go_sem] def Zs:(pI×Int×Int)->r8:=fun(O,a8,aA)=>rv [] (OW O a8 aA) λz=>([sv sN (z.1,(z.2.1,(z.2.2.1,(z.2.2.2,()))))],[])
@[go_sem] def aLP O a8 aA:=rF Zr qU Zs (O,a8,aA)
@[go_sem] abbrev aEm:Nat×r7:=mE 209 [.v,.v,.v] Zr qU Zs
def aEn:qW prog aEm:=
 rI (rH (qO rX (qO D4 rG)) (qQ aBB (qQ aD2 rE))) func209 55 [(6,some 228)] rfl λE ⟨O,a8,aA⟩=>by
  have u0:= @OW.eq_1;exact rK
def BB (O:Int) (a8:pI):Option Bool:=ite (decide (O=9)) ((vS a8).bind λaA=>some (aA)) (ite (((((((((a8=([122,101,114,111]:pI))||(a8=([111,110,101]:pI)))||(a8=([116,119,111]:pI)))||(a8=([102,101,119]:pI)))||(a8=([109,97,110,121]:pI)))||(a8=([111,116,104,101,114]:pI)))==false)&&((decide (1<(a8.length:Int)))==true))=true->0<=(0:Int)/\0<(a8.length:Int)) (ite (((((((((a8=([122,101,114,111]:pI))||(a8=([111,110,101]:pI)))||(a8=([116,119,111]:pI)))||(a8=([102,101,119]:pI)))||(a8=([109,97,110,121]:pI)))||(a8=([111,116,104,101,114]:pI)))==false)&&(((1<(a8.length:Int))&&((qZ a8 0)=61))==true))=true->0<=(1:Int)/\1<=(a8.length:Int)/\(a8.length:Int)<=(a8.length:Int)) (ite (((((((((a8=([122,101,114,111]:pI))||(a8=([111,110,101]:pI)))||(a8=([116,119,111]:pI)))||(a8=([102,101,119]:pI)))||(a8=([109,97,110,121]:pI)))||(a8=([111,116,104,101,114]:pI)))==false)&&(((1<(a8.length:Int))&&((qZ a8 0)=61))==true))=true->(OE (s8 a8 1 (a8.length:Int))).isSome=true) (some (((((((a8=([122,101,114,111]:pI))||(a8=([111,110,101]:pI)))||(a8=([116,119,111]:pI)))||(a8=([102,101,119]:pI)))||(a8=([109,97,110,121]:pI)))||(a8=([111,116,104,101,114]:pI)))||(((1<(a8.length:Int))&&((qZ a8 0)=61))&&(val (OE (s8 a8 1 (a8.length:Int))))))) none) none) none)
abbrev Zt (x:(Int×pI)):List qK:=[iv x.1,tv x.2]
@[go_sem] def Zu:(Int×pI)->r8:=fun(O,a8)=>rv [] (BB O a8) λz=>([bv z],[])
@[go_sem] def aLQ O a8:=rF Zt qU Zu (O,a8)
@[go_sem] abbrev aEo:Nat×r7:=mE 217 [.v,.v] Zt qU Zu
def Zv:qW prog aEo:=
 rI (rH (qO rX rG) (qQ T6 (qQ aBE (qQ aDo rE)))) func217 26 [(4,none)] rfl λE ⟨O,a8⟩=>by
  have u0:= @BB.eq_1;exact rK
def TA (O:pI):Option (Int×pI×Int):=ite (decide ((AF O 62)<0)) (some (0,([]:pI),0)) (ite (0<=(1:Int)/\1<=(AF O 62)/\(AF O 62)<=(O.length:Int)) ((G6 (s8 O 1 (AF O 62)) ([47]:pI)).bind λa8=>rA (σ:=(Int×pI)) (ite a8.2 (some (6,a8.1)) ((T9 (s8 O 1 (AF O 62)) ([47]:pI)).bind λaA=>ite aA.2 (some (7,aA.1)) (some (5,(s8 O 1 (AF O 62)))))) fun(aB,aC)=>(AL aC).bind λaD=>ite (!aD) (some (0,([]:pI),0)) (ite (qG ((AF O 62)+1)) (some (aB,aC,((AF O 62)+1))) none)) none)
abbrev Zw (x:pI):List qK:=[tv x]
@[go_sem] def Zx:pI->r8:=λO=>rv [] (TA O) λz=>([iv (z.1),tv (z.2.1),iv (z.2.2)],[])
@[go_sem] def aLR O:=rF Zw qU Zx O
@[go_sem] abbrev aEp:Nat×r7:=mE 250 [.v] Zw qU Zx
def aEq:qW prog aEp:=
 rI (rH (qO rX rG) (qQ Kq (qQ ul (qQ aD6 (qQ WX rE))))) func250 38 [(2,none),(3,none),(4,none)] rfl λE O=>by
  have u0:= @TA.eq_1
  let j1:JE 22 (Int×pI):=⟨λx=>⟨[(2,iv x.1),(3,tv x.2),(5,iv (AF O 62))],[],0,38,0⟩⟩
  exact rK
def OX (O:pI):Option Bool:=(X9 O).bind λa8=>some (a8.2.2.2)
abbrev Zy (x:pI):List qK:=[tv x]
@[go_sem] def Zz:pI->r8:=λO=>rv [] (OX O) λz=>([bv z],[])
@[go_sem] def aLS O:=rF Zy qU Zz O
@[go_sem] abbrev aEr:Nat×r7:=mE 313 [.v] Zy qU Zz
def aEs:qW prog aEr:=
 rI (rH (qO tq rG) (qQ aEa rE)) func313 11 [(2,none)] rfl λE O=>by
  have u0:= @OX.eq_1;exact rK
attribute [irreducible] X8 D8 OQ OR OS OT OV OW BB TA OX
end
noncomputable section
abbrev a0t (x:(Int×Bool×s9×Nat)):List qK:=[rs 0 0,iv x.1,bv x.2.1]
abbrev a0u (x:(Int×Bool×s9×Nat)):List qP:=[.cells tW x.2.2.1 [(2,1)],.grow 9 1 x.2.2.2]
@[go_sem] def a0v (O:s9->Int->Bool->Option (Ja0×Ja2×pJ×Int×Int)):(Int×Bool×s9×Nat)->r8:=fun(a8,aA,aB,aC)=>rv [aC=(aB.2.2.1.length)] (O aB a8 aA) λz=>([(.val (.list .part) (z.1),some 2)],[.cells tW (z.2.1,(aB.2.1,(z.2.2.1,(z.2.2.2.1,(z.2.2.2.2,()))))) [(2,1)],.grow 9 1 ((z.2.2.1).length),.grow 183 6 ((z.1).length)])
@[go_sem] def aL1 (O:s9->Int->Bool->Option (Ja0×Ja2×pJ×Int×Int)) a8 aA aB aC:=rF a0t a0u (a0v O) (a8,aA,aB,aC)
@[go_sem] abbrev fa (F:s9->Int->Bool->Option (Ja0×Ja2×pJ×Int×Int)):Nat×r7:=mE 152 [.p tW [2],.v,.v] a0t a0u (a0v F)
abbrev a0w (x:(Int×Bool×s9×Nat)):List qK:=[rs 0 0,iv x.1,bv x.2.1]
abbrev a0x (x:(Int×Bool×s9×Nat)):List qP:=[.cells tW x.2.2.1 [(2,1)],.grow 9 1 x.2.2.2]
@[go_sem] def a0y (O:s9->Int->Bool->Option (Int×pI×pI×Ja1×Ja2×pJ×Int×Int)):(Int×Bool×s9×Nat)->r8:=fun(a8,aA,aB,aC)=>rv [aC=(aB.2.2.1.length)] (O aB a8 aA) λz=>([sv sM (z.1,(([]:pI),(z.2.1,(z.2.2.1,(z.2.2.2.1,(([]:List qF),()))))))],[.cells tW (z.2.2.2.2.1,(aB.2.1,(z.2.2.2.2.2.1,(z.2.2.2.2.2.2.1,(z.2.2.2.2.2.2.2,()))))) [(2,1)],.grow 9 1 ((z.2.2.2.2.2.1).length)])
@[go_sem] def aL2 (O:s9->Int->Bool->Option (Int×pI×pI×Ja1×Ja2×pJ×Int×Int)) a8 aA aB aC:=rF a0w a0x (a0y O) (a8,aA,aB,aC)
@[go_sem] abbrev vk (F:s9->Int->Bool->Option (Int×pI×pI×Ja1×Ja2×pJ×Int×Int)):Nat×r7:=mE 214 [.p tW [2],.v,.v] a0w a0x (a0y F)
abbrev a0z (x:(Int×Bool×s9×Nat×rP×Nat×Nat)):List qK:=[rs 0 0,rs 2 0,iv x.1,bv x.2.1]
abbrev a0A (x:(Int×Bool×s9×Nat×rP×Nat×Nat)):List qP:=[.cells tW x.2.2.1 [(2,1)],.grow 9 1 x.2.2.2.1,.cells sM x.2.2.2.2.1 [(4,3),(5,4)],.grow 186 2 x.2.2.2.2.2.1,.grow 183 6 x.2.2.2.2.2.2]
@[go_sem] def a0B (O:s9->rP->Int->Bool->Option (Ja2×pJ×Int×Int×Int×pI×Ja1)):(Int×Bool×s9×Nat×rP×Nat×Nat)->r8:=fun(a8,aA,aB,aC,aD,aE,aF)=>rv [aC=(aB.2.2.1.length),aE=(aD.2.2.2.2.1.length),aF=(aD.2.2.2.2.2.1.length)] (O aB aD a8 aA) λz=>([],[.cells tW (z.1,(aB.2.1,(z.2.1,(z.2.2.1,(z.2.2.2.1,()))))) [(2,1)],.grow 9 1 ((z.2.1).length),.cells sM (z.2.2.2.2.1,(aD.2.1,(aD.2.2.1,(z.2.2.2.2.2.1,(z.2.2.2.2.2.2,(aD.2.2.2.2.2.1,())))))) [(4,3),(5,4)],.grow 186 2 ((z.2.2.2.2.2.2).length),.grow 183 6 (aD.2.2.2.2.2.1.length)])
@[go_sem] def aL3 (O:s9->rP->Int->Bool->Option (Ja2×pJ×Int×Int×Int×pI×Ja1)) a8 aA aB aC aD aE aF:=rF a0z a0A (a0B O) (a8,aA,aB,aC,aD,aE,aF)
@[go_sem] abbrev vm (F:s9->rP->Int->Bool->Option (Ja2×pJ×Int×Int×Int×pI×Ja1)):Nat×r7:=mE 267 [.p tW [2],.p sM [4,5],.v,.v] a0z a0A (a0B F) [] [4]
abbrev a0C (x:(Int×Bool×s9×Nat×rP×Nat×Nat)):List qK:=[rs 0 0,rs 2 0,iv x.1,bv x.2.1]
abbrev a0D (x:(Int×Bool×s9×Nat×rP×Nat×Nat)):List qP:=[.cells tW x.2.2.1 [(2,1)],.grow 9 1 x.2.2.2.1,.cells sM x.2.2.2.2.1 [(4,3),(5,4)],.grow 186 2 x.2.2.2.2.2.1,.grow 183 6 x.2.2.2.2.2.2]
@[go_sem] def a0E (O:s9->rP->Int->Bool->Option (Ja2×pJ×Int×Int×Ja1)):(Int×Bool×s9×Nat×rP×Nat×Nat)->r8:=fun(a8,aA,aB,aC,aD,aE,aF)=>rv [aC=(aB.2.2.1.length),aE=(aD.2.2.2.2.1.length),aF=(aD.2.2.2.2.2.1.length)] (O aB aD a8 aA) λz=>([],[.cells tW (z.1,(aB.2.1,(z.2.1,(z.2.2.1,(z.2.2.2.1,()))))) [(2,1)],.grow 9 1 ((z.2.1).length),.cells sM (aD.1,(aD.2.1,(aD.2.2.1,(aD.2.2.2.1,(z.2.2.2.2,(aD.2.2.2.2.2.1,())))))) [(4,3),(5,4)],.grow 186 2 ((z.2.2.2.2).length),.grow 183 6 (aD.2.2.2.2.2.1.length)])
@[go_sem] def aL4 (O:s9->rP->Int->Bool->Option (Ja2×pJ×Int×Int×Ja1)) a8 aA aB aC aD aE aF:=rF a0C a0D (a0E O) (a8,aA,aB,aC,aD,aE,aF)
@[go_sem] abbrev vn (F:s9->rP->Int->Bool->Option (Ja2×pJ×Int×Int×Ja1)):Nat×r7:=mE 296 [.p tW [2],.p sM [4,5],.v,.v] a0C a0D (a0E F) [] [4]
section
variable {O:s9->Int->Bool->Option (Ja0×Ja2×pJ×Int×Int)}{a8:s9->Int->Bool->Option (Int×pI×pI×Ja1×Ja2×pJ×Int×Int)}{aA:s9->rP->Int->Bool->Option (Ja2×pJ×Int×Int×Int×pI×Ja1)}{aB:s9->rP->Int->Bool->Option (Ja2×pJ×Int×Int×Ja1)}(hG0:qW prog (fa O)) (hG1:qW prog (vk a8)) (hG2:qW prog (vm aA)) (hG3:qW prog (vn aB))
include hG0 hG1 hG2 hG3
def y8 (aC:s9) (aD:Int) (aE:Bool) (O:s9->Int->Bool->Option (Ja0×Ja2×pJ×Int×Int)) (a8:s9->Int->Bool->Option (Int×pI×pI×Ja1×Ja2×pJ×Int×Int)):(Ja0×Ja2×pJ×Int×Int)->Option ((Ja0×Ja2×pJ×Int×Int)⊕((Ja2×pJ×Int×Int)⊕(Ja0×Ja2×pJ×Int×Int))):=fun(aF,aG,aH,aI,aJ)=>ite (decide (aJ=0)) ((vD (aG,(aC.2.1,(aH,(aI,(aJ,())))))).bind λaK=>ite (decide (aK.1=1)) ((uD (aG,(aC.2.1,(aH,(aI,(aJ,()))))) aK.1).bind λaL=>(SI aL.1).bind λaM=>ite ((aF.length+([(qF.of (1,(aM.1,(([]:pI),(([]:pI),(([]:List qS),(([]:List qF),())))))))]:List qF).length)*104<=140737488355328) (some (.inl ((aF++([(qF.of (1,(aM.1,(([]:pI),(([]:pI),(([]:List qS),(([]:List qF),())))))))]:List qF)),aL.2.1,aH,aL.2.2.1,aL.2.2.2))) none) (ite ((aK.1=4)&&aE) ((uD (aG,(aC.2.1,(aH,(aI,(aJ,()))))) aK.1).bind λaN=>ite ((aF.length+([(qF.of (10,(([]:pI),(([]:pI),(([]:pI),(([]:List qS),(([]:List qF),())))))))]:List qF).length)*104<=140737488355328) (some (.inl ((aF++([(qF.of (10,(([]:pI),(([]:pI),(([]:pI),(([]:List qS),(([]:List qF),())))))))]:List qF)),aN.2.1,aH,aN.2.2.1,aN.2.2.2))) none) (ite (decide (aK.1=7)) ((F6 (aG,(aC.2.1,(aH,(aI,(aJ,()))))) aD).bind λaO=>(uD (aG,(aC.2.1,(aH,(aO.1,(aO.2,()))))) aK.1).bind λaP=>ite ((aF.length+([(qF.of (11,(([]:pI),(aP.1,(([]:pI),(([]:List qS),(([]:List qF),())))))))]:List qF).length)*104<=140737488355328) (some (.inl ((aF++([(qF.of (11,(([]:pI),(aP.1,(([]:pI),(([]:List qS),(([]:List qF),())))))))]:List qF)),aP.2.1,aH,aP.2.2.1,aP.2.2.2))) none) (ite (decide (aK.1=5)) ((F6 (aG,(aC.2.1,(aH,(aI,(aJ,()))))) aD).bind λaQ=>(uD (aG,(aC.2.1,(aH,(aQ.1,(aQ.2,()))))) aK.1).bind λaR=>ite (qG (aD+1)) ((O (aR.2.1,(aC.2.1,(aH,(aR.2.2.1,(aR.2.2.2,()))))) (aD+1) aE).bind λaS=>(vD (aS.2.1,(aC.2.1,(aS.2.2.1,(aS.2.2.2.1,(aS.2.2.2.2,())))))).bind λaT=>ite ((decide (aT.1=6))==true) (ite (((decide (aT.1=6))==true)=true->(vD (aS.2.1,(aC.2.1,(aS.2.2.1,(aS.2.2.2.1,(aS.2.2.2.2,())))))).isSome=true) (ite ((aT.1=6)&&(!decide (aT.2.1=aR.1))) ((xS (aS.2.1,(aC.2.1,(aS.2.2.1,(aS.2.2.2.1,(aS.2.2.2.2,()))))) 3).bind λaU=>(uD (aS.2.1,(aC.2.1,(aS.2.2.1,(aU.1,(aU.2,()))))) 6).bind λaV=>ite ((aF.length+([(qF.of (11,(([]:pI),(aR.1,(([]:pI),(([]:List qS),(aS.1,())))))))]:List qF).length)*104<=140737488355328) (some (.inl ((aF++([(qF.of (11,(([]:pI),(aR.1,(([]:pI),(([]:List qS),(aS.1,())))))))]:List qF)),aV.2.1,aS.2.2.1,aV.2.2.1,aV.2.2.2))) none) ((uD (aS.2.1,(aC.2.1,(aS.2.2.1,(aS.2.2.2.1,(aS.2.2.2.2,()))))) 6).bind λaW=>ite ((aF.length+([(qF.of (11,(([]:pI),(aR.1,(([]:pI),(([]:List qS),(aS.1,())))))))]:List qF).length)*104<=140737488355328) (some (.inl ((aF++([(qF.of (11,(([]:pI),(aR.1,(([]:pI),(([]:List qS),(aS.1,())))))))]:List qF)),aW.2.1,aS.2.2.1,aW.2.2.1,aW.2.2.2))) none)) none) (ite false ((xS (aS.2.1,(aC.2.1,(aS.2.2.1,(aS.2.2.2.1,(aS.2.2.2.2,()))))) 3).bind λaX=>(uD (aS.2.1,(aC.2.1,(aS.2.2.1,(aX.1,(aX.2,()))))) 6).bind λaY=>ite ((aF.length+([(qF.of (11,(([]:pI),(aR.1,(([]:pI),(([]:List qS),(aS.1,())))))))]:List qF).length)*104<=140737488355328) (some (.inl ((aF++([(qF.of (11,(([]:pI),(aR.1,(([]:pI),(([]:List qS),(aS.1,())))))))]:List qF)),aY.2.1,aS.2.2.1,aY.2.2.1,aY.2.2.2))) none) ((uD (aS.2.1,(aC.2.1,(aS.2.2.1,(aS.2.2.2.1,(aS.2.2.2.2,()))))) 6).bind λaZ=>ite ((aF.length+([(qF.of (11,(([]:pI),(aR.1,(([]:pI),(([]:List qS),(aS.1,())))))))]:List qF).length)*104<=140737488355328) (some (.inl ((aF++([(qF.of (11,(([]:pI),(aR.1,(([]:pI),(([]:List qS),(aS.1,())))))))]:List qF)),aZ.2.1,aS.2.2.1,aZ.2.2.1,aZ.2.2.2))) none))) none) (ite (decide (aK.1=2)) ((a8 (aG,(aC.2.1,(aH,(aI,(aJ,()))))) aD aE).bind λbA=>ite ((aF.length+([(qF.of (bA.1,(([]:pI),(bA.2.1,(bA.2.2.1,(bA.2.2.2.1,(([]:List qF),())))))))]:List qF).length)*104<=140737488355328) (some (.inl ((aF++([(qF.of (bA.1,(([]:pI),(bA.2.1,(bA.2.2.1,(bA.2.2.2.1,(([]:List qF),())))))))]:List qF)),bA.2.2.2.2.1,bA.2.2.2.2.2.1,bA.2.2.2.2.2.2.1,bA.2.2.2.2.2.2.2))) none) (some (.inr (.inr (aF,aG,aH,aI,aJ))))))))) (some (.inr (.inl (aG,aH,aI,aJ))))
def I1 (O:s9->Int->Bool->Option (Ja0×Ja2×pJ×Int×Int)) (a8:s9->Int->Bool->Option (Int×pI×pI×Ja1×Ja2×pJ×Int×Int)) (aA:s9->rP->Int->Bool->Option (Ja2×pJ×Int×Int×Int×pI×Ja1)) (aB:s9->rP->Int->Bool->Option (Ja2×pJ×Int×Int×Ja1)) (aC:s9) (aD:Int) (aE:Bool):Option (Ja0×Ja2×pJ×Int×Int):=sK (rC (y8 aC aD aE O a8) (([]:List qF),aC.1,aC.2.2.1,aC.2.2.2.1,aC.2.2.2.2.1)) fun(bB,bC,bD,bE)=>some (([]:List qF),bB,bC,bD,bE)
theorem aEH:qW prog (fa (I1 O a8 aA aB)):=
 rI (rH (qO tN (qO rX (qO BA (qO uT (qO HI (qO uY (qO D4 rG))))))) (qQ JQ (qQ WW (qQ aCM (qQ Uq (qQ hG0 (qQ NV (qQ hG1 rE)))))))) func152 118 [(6,none)] rfl λE ⟨aD,aE,aC,bF⟩=>by
  have u0:= @I1.eq_1;have u1:= @y8.eq_1
  let l1:LE (y8 aC aD aE O a8):=⟨λx=>⟨[(0,rs 0 0),(1,iv aD),(2,bv aE),(7,(.val (.list .part) x.1,some 2))],[(0,.cells tW (x.2.1,(aC.2.1,(x.2.2.1,(x.2.2.2.1,(x.2.2.2.2,()))))) [(2,1)]),(1,.grow 9 1 (x.2.2.1.length)),(2,.grow 183 6 (x.1.length))],3,118,2⟩⟩
  let x1:XE (y8 aC aD aE O a8) 0 (Ja2×pJ×Int×Int):=⟨λx=>⟨[],[(0,.cells tW (x.1,(aC.2.1,(x.2.1,(x.2.2.1,(x.2.2.2,()))))) [(2,1)]),(1,.grow 9 1 (x.2.1.length))],2,118,2⟩⟩
  let s1:pX:=[1000000009]
  exact rK
def P1 (O:s9->Int->Bool->Option (Ja0×Ja2×pJ×Int×Int)) (a8:s9->Int->Bool->Option (Int×pI×pI×Ja1×Ja2×pJ×Int×Int)) (aA:s9->rP->Int->Bool->Option (Ja2×pJ×Int×Int×Int×pI×Ja1)) (aB:s9->rP->Int->Bool->Option (Ja2×pJ×Int×Int×Ja1)) (bG:s9) (bH:Int) (bI:Bool):Option (Int×pI×pI×Ja1×Ja2×pJ×Int×Int):=(uD bG 2).bind λbJ=>(ON (bJ.2.1,(bG.2.1,(bG.2.2.1,(bJ.2.2.1,(bJ.2.2.2,())))))).bind λbK=>ite ((decide (bK.2.2.2.2=0))==true) (ite (((decide (bK.2.2.2.2=0))==true)=true->(vD (bK.2.1,(bG.2.1,(bK.2.2.1,(bK.2.2.2.1,(bK.2.2.2.2,())))))).isSome=true) (ite ((bK.2.2.2.2=0)&&((val (vD (bK.2.1,(bG.2.1,(bK.2.2.1,(bK.2.2.2.1,(bK.2.2.2.2,()))))))).1=8)) ((uD (bK.2.1,(bG.2.1,(bK.2.2.1,(bK.2.2.2.1,(bK.2.2.2.2,()))))) 8).bind λbM=>(aA (bM.2.1,(bG.2.1,(bK.2.2.1,(bM.2.2.1,(bM.2.2.2,()))))) (2,(([]:pI),(bK.1,(([]:pI),(([]:List qS),(([]:List qF),())))))) bH bI).bind λbN=>(uD (bN.1,(bG.2.1,(bN.2.1,(bN.2.2.1,(bN.2.2.2.1,()))))) 3).bind λbO=>some (bN.2.2.2.2.1,bK.1,bN.2.2.2.2.2.1,bN.2.2.2.2.2.2,bO.2.1,bN.2.1,bO.2.2.1,bO.2.2.2)) ((uD (bK.2.1,(bG.2.1,(bK.2.2.1,(bK.2.2.2.1,(bK.2.2.2.2,()))))) 3).bind λbP=>some (2,bK.1,([]:pI),([]:List qS),bP.2.1,bK.2.2.1,bP.2.2.1,bP.2.2.2))) none) (ite false ((uD (bK.2.1,(bG.2.1,(bK.2.2.1,(bK.2.2.2.1,(bK.2.2.2.2,()))))) 8).bind λbQ=>(aA (bQ.2.1,(bG.2.1,(bK.2.2.1,(bQ.2.2.1,(bQ.2.2.2,()))))) (2,(([]:pI),(bK.1,(([]:pI),(([]:List qS),(([]:List qF),())))))) bH bI).bind λbR=>(uD (bR.1,(bG.2.1,(bR.2.1,(bR.2.2.1,(bR.2.2.2.1,()))))) 3).bind λbS=>some (bR.2.2.2.2.1,bK.1,bR.2.2.2.2.2.1,bR.2.2.2.2.2.2,bS.2.1,bR.2.1,bS.2.2.1,bS.2.2.2)) ((uD (bK.2.1,(bG.2.1,(bK.2.2.1,(bK.2.2.2.1,(bK.2.2.2.2,()))))) 3).bind λbT=>some (2,bK.1,([]:pI),([]:List qS),bT.2.1,bK.2.2.1,bT.2.2.1,bT.2.2.2)))
theorem aEI:qW prog (vk (P1 O a8 aA aB)):=
 rI (rH (qO BA (qO HI (qO uY (qO D4 rG)))) (qQ WW (qQ aD4 (qQ JQ (qQ hG2 rE))))) func214 33 [(6,some 183)] rfl λE ⟨bH,bI,bG,bF⟩=>by
  have u0:= @P1.eq_1
  let s1:pX:=[1000000011]
  exact rK
def I2 (O:s9->Int->Bool->Option (Ja0×Ja2×pJ×Int×Int)) (a8:s9->Int->Bool->Option (Int×pI×pI×Ja1×Ja2×pJ×Int×Int)) (aA:s9->rP->Int->Bool->Option (Ja2×pJ×Int×Int×Int×pI×Ja1)) (aB:s9->rP->Int->Bool->Option (Ja2×pJ×Int×Int×Ja1)) (aC:s9) (aD:rP) (bU:Int) (bV:Bool):Option (Ja2×pJ×Int×Int×Int×pI×Ja1):=(vD aC).bind λbW=>(NB bW.2.1).bind λbX=>(vD aC).bind λbZ=>rA (σ:=(Int×Int)) (ite ((bZ.1=9)&&(((bX=7)||(bX=8))||(bX=9))) ((F6 aC bU).bind λc7=>some (c7.1,c7.2)) (some (aC.2.2.2.1,aC.2.2.2.2.1))) fun(c8,c9)=>(vM (aC.1,(aC.2.1,(aC.2.2.1,(c8,(c9,()))))) (!decide (bX=0))).bind λcA=>ite (!decide (cA.2.2.2=0)) (some (cA.2.1,aC.2.2.1,cA.2.2.1,cA.2.2.2,bX,aD.2.2.2.1,aD.2.2.2.2.1)) (ite ((decide (bX=3))==true) (ite (((decide (bX=3))==true)=true->(vD (cA.2.1,(aC.2.1,(aC.2.2.1,(cA.2.2.1,(cA.2.2.2,())))))).isSome=true) (ite ((bX=3)&&(!decide ((val (vD (cA.2.1,(aC.2.1,(aC.2.2.1,(cA.2.2.1,(cA.2.2.2,()))))))).1=8))) (some (cA.2.1,aC.2.2.1,cA.2.2.1,cA.2.2.2,bX,aD.2.2.2.1,aD.2.2.2.2.1)) ((uD (cA.2.1,(aC.2.1,(aC.2.2.1,(cA.2.2.1,(cA.2.2.2,()))))) 8).bind λcB=>(vD (cB.2.1,(aC.2.1,(aC.2.2.1,(cB.2.2.1,(cB.2.2.2,())))))).bind λcC=>ite (decide (bX=3)) ((vM (cB.2.1,(aC.2.1,(aC.2.2.1,(cB.2.2.1,(cB.2.2.2,()))))) ((cC.2.1=([105,110,116,101,103,101,114]:pI))||(cC.2.1=([112,101,114,99,101,110,116]:pI)))).bind λcD=>some (cD.2.1,aC.2.2.1,cD.2.2.1,cD.2.2.2,bX,cD.1,aD.2.2.2.2.1)) (ite (decide (bX=5)) ((EA cC.2.1).bind λcE=>(vM (cB.2.1,(aC.2.1,(aC.2.2.1,(cB.2.2.1,(cB.2.2.2,()))))) cE).bind λcF=>some (cF.2.1,aC.2.2.1,cF.2.2.1,cF.2.2.2,bX,cF.1,aD.2.2.2.2.1)) (rA (σ:=Bool) (ite (decide (bX=4)) (some (decide (bX=4))) (some (decide (bX=6)))) λcG=>ite cG ((vS cC.2.1).bind λcH=>(vM (cB.2.1,(aC.2.1,(aC.2.2.1,(cB.2.2.1,(cB.2.2.2,()))))) cH).bind λcI=>some (cI.2.1,aC.2.2.1,cI.2.2.1,cI.2.2.2,bX,cI.1,aD.2.2.2.2.1)) ((aB (cB.2.1,(aC.2.1,(aC.2.2.1,(cB.2.2.1,(cB.2.2.2,()))))) (bX,aD.2) bU (bV||((bX=7)||(bX=8)))).bind λcJ=>some (cJ.1,cJ.2.1,cJ.2.2.1,cJ.2.2.2.1,bX,aD.2.2.2.1,cJ.2.2.2.2)))))) none) (ite false (some (cA.2.1,aC.2.2.1,cA.2.2.1,cA.2.2.2,bX,aD.2.2.2.1,aD.2.2.2.2.1)) ((uD (cA.2.1,(aC.2.1,(aC.2.2.1,(cA.2.2.1,(cA.2.2.2,()))))) 8).bind λcK=>(vD (cK.2.1,(aC.2.1,(aC.2.2.1,(cK.2.2.1,(cK.2.2.2,())))))).bind λcL=>ite (decide (bX=3)) ((vM (cK.2.1,(aC.2.1,(aC.2.2.1,(cK.2.2.1,(cK.2.2.2,()))))) ((cL.2.1=([105,110,116,101,103,101,114]:pI))||(cL.2.1=([112,101,114,99,101,110,116]:pI)))).bind λcN=>some (cN.2.1,aC.2.2.1,cN.2.2.1,cN.2.2.2,bX,cN.1,aD.2.2.2.2.1)) (ite (decide (bX=5)) ((EA cL.2.1).bind λcO=>(vM (cK.2.1,(aC.2.1,(aC.2.2.1,(cK.2.2.1,(cK.2.2.2,()))))) cO).bind λcP=>some (cP.2.1,aC.2.2.1,cP.2.2.1,cP.2.2.2,bX,cP.1,aD.2.2.2.2.1)) (rA (σ:=Bool) (ite (decide (bX=4)) (some (decide (bX=4))) (some (decide (bX=6)))) λcQ=>ite cQ ((vS cL.2.1).bind λcS=>(vM (cK.2.1,(aC.2.1,(aC.2.2.1,(cK.2.2.1,(cK.2.2.2,()))))) cS).bind λcT=>some (cT.2.1,aC.2.2.1,cT.2.2.1,cT.2.2.2,bX,cT.1,aD.2.2.2.2.1)) ((aB (cK.2.1,(aC.2.1,(aC.2.2.1,(cK.2.2.1,(cK.2.2.2,()))))) (bX,aD.2) bU (bV||((bX=7)||(bX=8)))).bind λcU=>some (cU.1,cU.2.1,cU.2.2.1,cU.2.2.2.1,bX,aD.2.2.2.1,cU.2.2.2.2)))))))
theorem aEJ:qW prog (vm (I2 O a8 aA aB)):=
 rI (rH (qO tN (qO rX (qO BA (qO HI (qO uY (qO D4 rG)))))) (qQ JQ (qQ aBM (qQ dn (qQ Uq (qQ uo (qQ WW (qQ Qg (qQ T6 (qQ Oi (qQ hG3 rE))))))))))) func267 106 [] rfl λE ⟨bU,bV,aC,bF,aD,cV,cW⟩=>by
  have u0:= @I2.eq_1
  let j1 bX:JE 26 (Int×Int):=⟨λx=>⟨[(0,rs 0 0),(1,rs 2 0),(2,iv bU),(3,bv bV)],[(0,.cells tW (aC.1,(aC.2.1,(aC.2.2.1,(x.1,(x.2,()))))) [(2,1)]),(1,.grow 9 1 (aC.2.2.1.length)),(2,.cells sM (bX,aD.2) [(4,3),(5,4)]),(3,.grow 186 2 (aD.2.2.2.2.1.length)),(4,.grow 183 6 (aD.2.2.2.2.2.1.length))],5,106,5⟩⟩
  let j2 (cC:(Int×pI×Int×Int)) (cB:(pI×Ja2×Int×Int)) bX:JE 96 Bool:=⟨λx=>⟨[(0,rs 0 0),(1,rs 2 0),(2,iv bU),(3,bv bV),(8,tv cC.2.1),(96,bv x)],[(0,.cells tW (cB.2.1,(aC.2.1,(aC.2.2.1,(cB.2.2.1,(cB.2.2.2,()))))) [(2,1)]),(1,.grow 9 1 (aC.2.2.1.length)),(2,.cells sM (bX,aD.2) [(4,3),(5,4)]),(3,.grow 186 2 (aD.2.2.2.2.1.length)),(4,.grow 183 6 (aD.2.2.2.2.2.1.length))],5,106,5⟩⟩
  let j3 (cL:(Int×pI×Int×Int)) (cK:(pI×Ja2×Int×Int)) bX:JE 96 Bool:=⟨λx=>⟨[(0,rs 0 0),(1,rs 2 0),(2,iv bU),(3,bv bV),(8,tv cL.2.1),(96,bv x)],[(0,.cells tW (cK.2.1,(aC.2.1,(aC.2.2.1,(cK.2.2.1,(cK.2.2.2,()))))) [(2,1)]),(1,.grow 9 1 (aC.2.2.1.length)),(2,.cells sM (bX,aD.2) [(4,3),(5,4)]),(3,.grow 186 2 (aD.2.2.2.2.1.length)),(4,.grow 183 6 (aD.2.2.2.2.2.1.length))],5,106,5⟩⟩
  let s1:pX:=[1000000011]
  exact rK
def EG (aC:s9) (aD:rP) (bU:Int) (bV:Bool) (O:s9->Int->Bool->Option (Ja0×Ja2×pJ×Int×Int)):(pJ×Ja2×pJ×Int×Int×Ja1)->Option ((pJ×Ja2×pJ×Int×Int×Ja1)⊕(pJ×Ja2×pJ×Int×Int×Ja1)):=fun(cX,cY,cZ,d5,d6,d7)=>ite (((decide (d6=0))==true)&&((decide ((cX.length:Int)=0))==false)) (ite ((((decide (d6=0))==true)&&((decide ((cX.length:Int)=0))==false))=true->(vD (cY,(aC.2.1,(cZ,(d5,(d6,())))))).isSome=true) (ite ((d6=0)&&(((cX.length:Int)=0)||(!decide ((val (vD (cY,(aC.2.1,(cZ,(d5,(d6,()))))))).1=3)))) ((vD (cY,(aC.2.1,(cZ,(d5,(d6,())))))).bind λd9=>ite (((decide (d9.1=9))==true)=true->(BB aD.1 d9.2.1).isSome=true) (rA (σ:=(Int×Int)) (ite ((d9.1=9)&&(val (BB aD.1 d9.2.1))) (rA (σ:=(Int×Int)) (ite (decide (20<=(cX.length:Int))) ((xS (cY,(aC.2.1,(cZ,(d5,(d6,()))))) 6).bind λdA=>some (dA.1,dA.2)) (some (d5,d6))) fun(dB,dC)=>(yY cX d9.2.1).bind λdD=>ite dD ((xS (cY,(aC.2.1,(cZ,(dB,(dC,()))))) 9).bind λdE=>some (dE.1,dE.2)) (some (dB,dC))) (some (d5,d6))) fun(dF,dG)=>(BB aD.1 d9.2.1).bind λdI=>(vM (cY,(aC.2.1,(cZ,(dF,(dG,()))))) dI).bind λdJ=>ite ((cX.length+([dJ.1]:pJ).length)*16<=140737488355328) ((uD (dJ.2.1,(aC.2.1,(cZ,(dJ.2.2.1,(dJ.2.2.2,()))))) 2).bind λdK=>ite (qG (bU+1)) ((O (dK.2.1,(aC.2.1,(cZ,(dK.2.2.1,(dK.2.2.2,()))))) (bU+1) bV).bind λdL=>(uD (dL.2.1,(aC.2.1,(dL.2.2.1,(dL.2.2.2.1,(dL.2.2.2.2,()))))) 3).bind λdM=>ite ((d7.length+([(dJ.1,(dL.1,()))]:List qS).length)*40<=140737488355328) (some (.inl ((cX++([dJ.1]:pJ)),dM.2.1,dL.2.2.1,dM.2.2.1,dM.2.2.2,(d7++([(dJ.1,(dL.1,()))]:List qS))))) none) none) none) none) (some (.inr (cX,cY,cZ,d5,d6,d7)))) none) (ite ((d6=0)&&true) ((vD (cY,(aC.2.1,(cZ,(d5,(d6,())))))).bind λdN=>ite (((decide (dN.1=9))==true)=true->(BB aD.1 dN.2.1).isSome=true) (rA (σ:=(Int×Int)) (ite ((dN.1=9)&&(val (BB aD.1 dN.2.1))) (rA (σ:=(Int×Int)) (ite (decide (20<=(cX.length:Int))) ((xS (cY,(aC.2.1,(cZ,(d5,(d6,()))))) 6).bind λdO=>some (dO.1,dO.2)) (some (d5,d6))) fun(dP,dQ)=>(yY cX dN.2.1).bind λdR=>ite dR ((xS (cY,(aC.2.1,(cZ,(dP,(dQ,()))))) 9).bind λdT=>some (dT.1,dT.2)) (some (dP,dQ))) (some (d5,d6))) fun(dU,dV)=>(BB aD.1 dN.2.1).bind λdW=>(vM (cY,(aC.2.1,(cZ,(dU,(dV,()))))) dW).bind λdX=>ite ((cX.length+([dX.1]:pJ).length)*16<=140737488355328) ((uD (dX.2.1,(aC.2.1,(cZ,(dX.2.2.1,(dX.2.2.2,()))))) 2).bind λdY=>ite (qG (bU+1)) ((O (dY.2.1,(aC.2.1,(cZ,(dY.2.2.1,(dY.2.2.2,()))))) (bU+1) bV).bind λdZ=>(uD (dZ.2.1,(aC.2.1,(dZ.2.2.1,(dZ.2.2.2.1,(dZ.2.2.2.2,()))))) 3).bind λe8=>ite ((d7.length+([(dX.1,(dZ.1,()))]:List qS).length)*40<=140737488355328) (some (.inl ((cX++([dX.1]:pJ)),e8.2.1,dZ.2.2.1,e8.2.2.1,e8.2.2.2,(d7++([(dX.1,(dZ.1,()))]:List qS))))) none) none) none) none) (some (.inr (cX,cY,cZ,d5,d6,d7))))
def I3 (O:s9->Int->Bool->Option (Ja0×Ja2×pJ×Int×Int)) (a8:s9->Int->Bool->Option (Int×pI×pI×Ja1×Ja2×pJ×Int×Int)) (aA:s9->rP->Int->Bool->Option (Ja2×pJ×Int×Int×Int×pI×Ja1)) (aB:s9->rP->Int->Bool->Option (Ja2×pJ×Int×Int×Ja1)) (aC:s9) (aD:rP) (bU:Int) (bV:Bool):Option (Ja2×pJ×Int×Int×Ja1):=rA (rC (EG aC aD bU bV O) (([]:pJ),aC.1,aC.2.2.1,aC.2.2.2.1,aC.2.2.2.2.1,aD.2.2.2.2.1)) fun(eA,eB,eC,eE,eF,eG)=>ite (((decide (eF=0))==true)=true->(yY eA ([111,116,104,101,114]:pI)).isSome=true) (ite ((eF=0)&&(!(val (yY eA ([111,116,104,101,114]:pI))))) ((xS (eB,(aC.2.1,(eC,(eE,(eF,()))))) 13).bind λeH=>some (eB,eC,eH.1,eH.2,eG)) (some (eB,eC,eE,eF,eG))) none
theorem aEK:qW prog (vn (I3 O a8 aA aB)):=
 rI (rH (qO tN (qO rX (qO vC (qO BA (qO HI (qO yK (qO uY (qO AK (qO D4 rG))))))))) (qQ JQ (qQ Zv (qQ NV (qQ dr (qQ uo (qQ WW (qQ hG0 rE)))))))) func296 99 [] rfl λE ⟨bU,bV,aC,bF,aD,cV,cW⟩=>by
  have u0:= @I3.eq_1;have u1:= @EG.eq_1
  let l1:LE (EG aC aD bU bV O):=⟨λx=>⟨[(0,rs 0 0),(1,rs 2 0),(2,iv bU),(3,bv bV),(8,(.val (.list .str) x.1,some 5))],[(0,.cells tW (x.2.1,(aC.2.1,(x.2.2.1,(x.2.2.2.1,(x.2.2.2.2.1,()))))) [(2,1)]),(1,.grow 9 1 (x.2.2.1.length)),(2,.cells sM (aD.1,(aD.2.1,(aD.2.2.1,(aD.2.2.2.1,(x.2.2.2.2.2,(aD.2.2.2.2.2.1,())))))) [(4,3),(5,4)]),(3,.grow 186 2 (x.2.2.2.2.2.length)),(4,.grow 183 6 (aD.2.2.2.2.2.1.length)),(5,.grow 9 1 (x.1.length))],6,99,5⟩⟩
  let j1 cX (d9:(Int×pI×Int×Int)) cY cZ d7:JE 41 (Int×Int):=⟨λx=>⟨[(0,rs 0 0),(1,rs 2 0),(2,iv bU),(3,bv bV),(8,(.val (.list .str) cX,some 5)),(9,rs 6 0),(23,sv sN (d9.1,(d9.2.1,(d9.2.2.1,(d9.2.2.2,())))))],[(0,.cells tW (cY,(aC.2.1,(cZ,(x.1,(x.2,()))))) [(2,1)]),(1,.grow 9 1 (cZ.length)),(2,.cells sM (aD.1,(aD.2.1,(aD.2.2.1,(aD.2.2.2.1,(d7,(aD.2.2.2.2.2.1,())))))) [(4,3),(5,4)]),(3,.grow 186 2 (d7.length)),(4,.grow 183 6 (aD.2.2.2.2.2.1.length)),(5,.grow 9 1 (cX.length)),(6,.cells sN (d9.1,(d9.2.1,(d9.2.2.1,(d9.2.2.2,())))) [])],7,99,5⟩⟩
  let j2 cX (d9:(Int×pI×Int×Int)) cY cZ d7:JE 44 (Int×Int):=⟨λx=>⟨[(0,rs 0 0),(1,rs 2 0),(2,iv bU),(3,bv bV),(8,(.val (.list .str) cX,some 5)),(9,rs 6 0),(23,sv sN (d9.1,(d9.2.1,(d9.2.2.1,(d9.2.2.2,())))))],[(0,.cells tW (cY,(aC.2.1,(cZ,(x.1,(x.2,()))))) [(2,1)]),(1,.grow 9 1 (cZ.length)),(2,.cells sM (aD.1,(aD.2.1,(aD.2.2.1,(aD.2.2.2.1,(d7,(aD.2.2.2.2.2.1,())))))) [(4,3),(5,4)]),(3,.grow 186 2 (d7.length)),(4,.grow 183 6 (aD.2.2.2.2.2.1.length)),(5,.grow 9 1 (cX.length)),(6,.cells sN (d9.1,(d9.2.1,(d9.2.2.1,(d9.2.2.2,())))) [])],7,99,5⟩⟩
  let j3 cX cY cZ d7 (dN:(Int×pI×Int×Int)):JE 41 (Int×Int):=⟨λx=>⟨[(0,rs 0 0),(1,rs 2 0),(2,iv bU),(3,bv bV),(8,(.val (.list .str) cX,some 5)),(9,rs 6 0)],[(0,.cells tW (cY,(aC.2.1,(cZ,(x.1,(x.2,()))))) [(2,1)]),(1,.grow 9 1 (cZ.length)),(2,.cells sM (aD.1,(aD.2.1,(aD.2.2.1,(aD.2.2.2.1,(d7,(aD.2.2.2.2.2.1,())))))) [(4,3),(5,4)]),(3,.grow 186 2 (d7.length)),(4,.grow 183 6 (aD.2.2.2.2.2.1.length)),(5,.grow 9 1 (cX.length)),(6,.cells sN (dN.1,(dN.2.1,(dN.2.2.1,(dN.2.2.2,())))) [])],7,99,5⟩⟩
  let j4 cX cY cZ d7 (dN:(Int×pI×Int×Int)):JE 44 (Int×Int):=⟨λx=>⟨[(0,rs 0 0),(1,rs 2 0),(2,iv bU),(3,bv bV),(8,(.val (.list .str) cX,some 5)),(9,rs 6 0)],[(0,.cells tW (cY,(aC.2.1,(cZ,(x.1,(x.2,()))))) [(2,1)]),(1,.grow 9 1 (cZ.length)),(2,.cells sM (aD.1,(aD.2.1,(aD.2.2.1,(aD.2.2.2.1,(d7,(aD.2.2.2.2.2.1,())))))) [(4,3),(5,4)]),(3,.grow 186 2 (d7.length)),(4,.grow 183 6 (aD.2.2.2.2.2.1.length)),(5,.grow 9 1 (cX.length)),(6,.cells sN (dN.1,(dN.2.1,(dN.2.2.1,(dN.2.2.2,())))) [])],7,99,5⟩⟩
  let x1:XE (EG aC aD bU bV O) 0 (pJ×Ja2×pJ×Int×Int×Ja1):=⟨λx=>⟨[(0,rs 0 0),(8,(.val (.list .str) x.1,some 5))],[(0,.cells tW (x.2.1,(aC.2.1,(x.2.2.1,(x.2.2.2.1,(x.2.2.2.2.1,()))))) [(2,1)]),(1,.grow 9 1 (x.2.2.1.length)),(2,.cells sM (aD.1,(aD.2.1,(aD.2.2.1,(aD.2.2.2.1,(x.2.2.2.2.2,(aD.2.2.2.2.2.1,())))))) [(4,3),(5,4)]),(3,.grow 186 2 (x.2.2.2.2.2.length)),(4,.grow 183 6 (aD.2.2.2.2.2.1.length)),(5,.grow 9 1 (x.1.length))],6,99,5⟩⟩
  let s1:pX:=[1000000018]
  exact rK
end
def aEL (p:(s9->Int->Bool->Option (Ja0×Ja2×pJ×Int×Int))×(s9->Int->Bool->Option (Int×pI×pI×Ja1×Ja2×pJ×Int×Int))×(s9->rP->Int->Bool->Option (Ja2×pJ×Int×Int×Int×pI×Ja1))×(s9->rP->Int->Bool->Option (Ja2×pJ×Int×Int×Ja1))):(s9->Int->Bool->Option (Ja0×Ja2×pJ×Int×Int))×(s9->Int->Bool->Option (Int×pI×pI×Ja1×Ja2×pJ×Int×Int))×(s9->rP->Int->Bool->Option (Ja2×pJ×Int×Int×Int×pI×Ja1))×(s9->rP->Int->Bool->Option (Ja2×pJ×Int×Int×Ja1)):=(I1 p.1 p.2.1 p.2.2.1 p.2.2.2,P1 p.1 p.2.1 p.2.2.1 p.2.2.2,I2 p.1 p.2.1 p.2.2.1 p.2.2.2,I3 p.1 p.2.1 p.2.2.1 p.2.2.2)
def TG (n:Nat):(s9->Int->Bool->Option (Ja0×Ja2×pJ×Int×Int))×(s9->Int->Bool->Option (Int×pI×pI×Ja1×Ja2×pJ×Int×Int))×(s9->rP->Int->Bool->Option (Ja2×pJ×Int×Int×Int×pI×Ja1))×(s9->rP->Int->Bool->Option (Ja2×pJ×Int×Int×Ja1)):=Nat.rec (motive:=λ_=>(s9->Int->Bool->Option (Ja0×Ja2×pJ×Int×Int))×(s9->Int->Bool->Option (Int×pI×pI×Ja1×Ja2×pJ×Int×Int))×(s9->rP->Int->Bool->Option (Ja2×pJ×Int×Int×Int×pI×Ja1))×(s9->rP->Int->Bool->Option (Ja2×pJ×Int×Int×Ja1))) ((λ_ _ _=>none),(λ_ _ _=>none),(λ_ _ _ _=>none),(λ_ _ _ _=>none)) (λ_ p=>aEL p) n
theorem a0F: ∀n:Nat,qW prog (fa (TG n).1)/\qW prog (vk (TG n).2.1)/\qW prog (vm (TG n).2.2.1)/\qW prog (vn (TG n).2.2.2)
 |0=>⟨uX,uX,uX,uX⟩
 |n+1=>have h:=a0F n;⟨aEH h.1 h.2.1 h.2.2.1 h.2.2.2,aEI h.1 h.2.1 h.2.2.1 h.2.2.2,aEJ h.1 h.2.1 h.2.2.1 h.2.2.2,aEK h.1 h.2.1 h.2.2.1 h.2.2.2⟩
def K8:s9->Int->Bool->Option (Ja0×Ja2×pJ×Int×Int):=(TG 1000).1
@[go_sem] abbrev aEM:Nat×r7:=fa K8
theorem aEN:qW prog aEM:=(a0F 1000).1
theorem a3G:K8=(TG 1000).1:=rfl
attribute [irreducible] I1 P1 I2 I3 K8
end
end Go.Proofs.YtedimeeleabhnaaGreatDoor
