import Derived.KernelRfl
import Derived.Test.YtedimeeleabhnaaGreatDoorV02
set_option linter.all false
set_option maxRecDepth 100000
set_option maxHeartbeats 4000000
namespace Go.Proofs.YtedimeeleabhnaaGreatDoor
open Vc
open Tryz
noncomputable section
def sT (O:pJ) (a8:Ja2) (aA:Int) (aB:pR) (aC:Int) (aD:pS):Option (pJ×Int×Int×Int):=(vU O a8 aA aB aD).bind λaE=>ite (!decide (aE=aC)) ((vV O a8 aA aB 3 aD).bind λaF=>some (([]:pJ),aA,aF.1,aF.2)) (ite (qH (aA+1)) (ite (qH ((aA+1)- 1)) (ite (0<=((aA+1)- 1)/\((aA+1)- 1)<(a8.length:Int)) (some ((qI sO a8 ((aA+1)- 1)).2.1,(aA+1),aB.1,aB.2.1)) none) none) none)
abbrev Vu (x:(Int×pJ×Ja2×Int×pR×pS)):List qP:=[rs 0 0,iv x.1]
abbrev Vv (x:(Int×pJ×Ja2×Int×pR×pS)):List qQ:=[.cells tG (x.2.1,(x.2.2.1,(x.2.2.2.1,((some 1),x.2.2.2.2.1)))) [],.map .str .bool x.2.2.2.2.2]
@[go_sem] def Vw:(Int×pJ×Ja2×Int×pR×pS)->r9:=fun(O,a8,aA,aB,aC,aD)=>rv [] (sT a8 aA aB aC O aD) λz=>([tv (z.1)],[.cells tG (a8,(aA,(z.2.1,((some 1),(z.2.2.1,(z.2.2.2,())))))) [],.map .str .bool aD])
@[go_sem] def aMm O a8 aA aB aC aD:=rI Vu Vv Vw (O,a8,aA,aB,aC,aD)
@[go_sem] abbrev aDV:Nat×r8:=mE 195 [.p tG [],.v] Vu Vv Vw [(0,3,.m)] [1]
def EP:qZ prog aDV:=
 rJ (rH (qO tO (qO rY (qO A4 (qO zJ (qO AQ rG))))) (qS C2 (qS EN rF))) func195 30 [(4,none)] rfl λE ⟨O,a8,aA,aB,aC,aD⟩=>by
  have u0:= @sT.eq_1;exact rM
def O9 (O:pJ):(Int×pU)->Option ((Int×pU)⊕pU):=fun(a8,aA)=>ite (decide (a8<(O.length:Int))) (ite (0<=a8/\a8<(O.length:Int)) (ite (K5 (r7 O a8)) ((GD (aA,()) 92).bind λaB=>ite (0<=a8/\a8<(O.length:Int)) ((GD ((aA++([92]:pU)),()) (r7 O a8)).bind λaC=>ite (qH (a8+1)) (some (.inl ((a8+1),((aA++([92]:pU))++([(r7 O a8)]:pU))))) none) none) (ite (0<=a8/\a8<(O.length:Int)) ((GD (aA,()) (r7 O a8)).bind λaD=>ite (qH (a8+1)) (some (.inl ((a8+1),(aA++([(r7 O a8)]:pU))))) none) none)) none) (some (.inr aA))
def OA (O:pJ):Option pJ:=rD (rC (O9 O) (0,([]:pU))) λa8=>some (tU a8)
abbrev Vx (x:pJ):List qP:=[tv x]
@[go_sem] def Vy:pJ->r9:=λO=>rv [] (OA O) λz=>([tv z],[])
@[go_sem] def aMn O:=rI Vx qV Vy O
@[go_sem] abbrev Vz:Nat×r8:=mE 202 [.v] Vx qV Vy
def Wa:qZ prog Vz:=
 rJ (rH (qO rY (qO WR rG)) (qS Re (qS Ql (qS ee rF)))) func202 21 [(2,none)] rfl λE O=>by
  have u0:= @OA.eq_1;have u1:= @O9.eq_1
  let l1:LE (O9 O):=⟨λx=>⟨[(0,tv O),(3,rs 0 0),(6,iv (O.length:Int)),(7,iv x.1)],[(0,.cells vC ((some (0,0)),(x.2,())) [(1,1)]),(1,.grow 5 1 (x.2.length))],2,21,0⟩⟩
  let x1:XE (O9 O) 0 pU:=⟨λx=>⟨[(3,rs 0 0)],[(0,.cells vC ((some (0,0)),(x,())) [(1,1)]),(1,.grow 5 1 (x.length))],2,21,0⟩⟩
  exact rM
def KE (O:pJ):(pU×Int)->Option ((pU×Int)⊕(pU⊕(pJ×Int×Int))):=fun(a8,aA)=>ite (decide (aA<(O.length:Int))) (ite (0<=aA/\aA<(O.length:Int)) (ite (((decide ((r7 O aA)=92))==true)=true->qH (aA+1)) (ite (((((r7 O aA)=92)&&((aA+1)<(O.length:Int)))==true)=true->qH (aA+1)) (ite (((((r7 O aA)=92)&&((aA+1)<(O.length:Int)))==true)=true->0<=(aA+1)/\(aA+1)<(O.length:Int)) (ite ((((r7 O aA)=92)&&((aA+1)<(O.length:Int)))&&(((((((r7 O (aA+1))=123)||((r7 O (aA+1))=125))||((r7 O (aA+1))=60))||((r7 O (aA+1))=62))||((r7 O (aA+1))=35))||((r7 O (aA+1))=92))) (ite (qH (aA+1)) (ite (0<=(aA+1)/\(aA+1)<(O.length:Int)) (ite ((a8.length+([(r7 O (aA+1))]:pU).length)*1<=140737488355328) (ite (qH ((aA+1)+1)) (some (.inl ((a8++([(r7 O (aA+1))]:pU)),((aA+1)+1)))) none) none) none) none) (ite (0<=aA/\aA<(O.length:Int)) (ite (((((((r7 O aA)=123)||((r7 O aA)=125))||((r7 O aA)=60))||((r7 O aA)=62))||((r7 O aA)=35))||((r7 O aA)=92)) (some (.inr (.inr (([]:pJ),aA,3)))) (ite (0<=aA/\aA<(O.length:Int)) (ite ((a8.length+([(r7 O aA)]:pU).length)*1<=140737488355328) (ite (qH (aA+1)) (some (.inl ((a8++([(r7 O aA)]:pU)),(aA+1)))) none) none) none)) none)) none) none) none) none) (some (.inr (.inl a8)))
def T3 (O:pJ):Option (pJ×Int×Int):=sK (rC (KE O) (([]:pU),0)) λa8=>some ((tU a8),0,0)
abbrev Wb (x:pJ):List qP:=[tv x]
@[go_sem] def Wc:pJ->r9:=λO=>rv [] (T3 O) λz=>([tv (z.1),iv (z.2.1),iv (z.2.2)],[])
@[go_sem] def aMo O:=rI Wb qV Wc O
@[go_sem] abbrev aDW:Nat×r8:=mE 211 [.v] Wb qV Wc
def aDX:qZ prog aDW:=
 rJ (rH (qO HU (qO rY (qO HT rG))) (qS vo rF)) func211 46 [(2,none),(3,none),(4,none)] rfl λE O=>by
  have u0:= @T3.eq_1;have u1:= @KE.eq_1
  let l1:LE (KE O):=⟨λx=>⟨[(0,tv O),(5,(.val (.list (.int .u8)) x.1,some 0)),(6,iv x.2)],[(0,.grow 5 1 (x.1.length))],1,46,0⟩⟩
  let x1:XE (KE O) 0 pU:=⟨λx=>⟨[(5,(.val (.list (.int .u8)) x,some 0))],[(0,.grow 5 1 (x.length))],1,46,0⟩⟩
  exact rM
def uH (O:s9) (a8:Int):Option (pJ×Ja2×Int×Int):=(vG O).bind λaA=>rD (σ:=(Int×Int)) (ite (!decide (aA.1=a8)) ((xZ O 3).bind λaB=>some (aB.1,aB.2)) (some (O.2.2.2.1,O.2.2.2.2.1))) fun(aC,aD)=>ite (!decide (aD=0)) (some (([]:pJ),O.1,aC,aD)) (ite (0<=(1:Int)/\1<=(O.1.length:Int)/\(O.1.length:Int)<=(O.1.length:Int)) (some (aA.2.1,(s8 O.1 1 (O.1.length:Int)),aC,aD)) none)
abbrev Wd (x:(Int×s9×Nat)):List qP:=[rs 0 0,iv x.1]
abbrev We (x:(Int×s9×Nat)):List qQ:=[.cells tZ x.2.1 [(2,1)],.grow 9 1 x.2.2]
@[go_sem] def Wf:(Int×s9×Nat)->r9:=fun(O,a8,aA)=>rv [aA=(a8.2.2.1.length)] (uH a8 O) λz=>([tv (z.1)],[.cells tZ (z.2.1,(a8.2.1,(a8.2.2.1,(z.2.2.1,(z.2.2.2,()))))) [(2,1)],.grow 9 1 (a8.2.2.1.length)])
@[go_sem] def aMp O a8 aA:=rI Wd We Wf (O,a8,aA)
@[go_sem] abbrev aDY:Nat×r8:=mE 212 [.p tZ [2],.v] Wd We Wf [] [1]
def X6:qZ prog aDY:=
 rJ (rH (qO tO (qO rY (qO BD (qO dv (qO HV (qO D6 rG)))))) (qS K3 (qS O7 rF))) func212 29 [(4,none)] rfl λE ⟨O,a8,aA⟩=>by
  have u0:= @uH.eq_1
  let j1 (aB:(Int×pJ×Int×Int)):JE 11 (Int×Int):=⟨λx=>⟨[(0,rs 0 0),(5,rs 2 0)],[(0,.cells tZ (a8.1,(a8.2.1,(a8.2.2.1,(x.1,(x.2,()))))) [(2,1)]),(1,.grow 9 1 (a8.2.2.1.length)),(2,.cells sO (aB.1,(aB.2.1,(aB.2.2.1,(aB.2.2.2,())))) [])],3,29,2⟩⟩
  exact rM
def FK (O:s9) (a8:Int):Option (Int×Int):=ite (decide (8<a8)) ((xZ O 6).bind λaA=>some (aA.1,aA.2)) (some (O.2.2.2.1,O.2.2.2.2.1))
abbrev Wg (x:(Int×s9×Nat)):List qP:=[rs 0 0,iv x.1]
abbrev Wh (x:(Int×s9×Nat)):List qQ:=[.cells tZ x.2.1 [(2,1)],.grow 9 1 x.2.2]
@[go_sem] def Wi:(Int×s9×Nat)->r9:=fun(O,a8,aA)=>rv [aA=(a8.2.2.1.length)] (FK a8 O) λz=>([],[.cells tZ (a8.1,(a8.2.1,(a8.2.2.1,(z.1,(z.2,()))))) [(2,1)],.grow 9 1 (a8.2.2.1.length)])
@[go_sem] def aMq O a8 aA:=rI Wg Wh Wi (O,a8,aA)
@[go_sem] abbrev aDZ:Nat×r8:=mE 213 [.p tZ [2],.v] Wg Wh Wi [] [1]
def Wj:qZ prog aDZ:=
 rJ (rH rG (qS O7 rF)) func213 8 [] rfl λE ⟨O,a8,aA⟩=>by
  have u0:= @FK.eq_1;exact rM
def D7 (O:pJ) (a8:Int):(Int×Int)->Option ((Int×Int)⊕(Int⊕(Int×Int))):=fun(aA,aB)=>ite (decide (aB<a8)) (ite (0<=aB/\aB<(O.length:Int)) (ite (((decide ((r7 O aB)<128))==false)=true->0<=aB/\aB<(O.length:Int)) (ite (((r7 O aB)<128)||(191<(r7 O aB))) (some (.inr (.inr (65533,1)))) (ite (qH (64*aA)) (ite (0<=aB/\aB<(O.length:Int)) (ite (qH ((64*aA)+(IntKind.wrap .i64 (r7 O aB)))) (ite (qH (((64*aA)+(IntKind.wrap .i64 (r7 O aB)))- 128)) (ite (qH (aB+1)) (some (.inl ((((64*aA)+(IntKind.wrap .i64 (r7 O aB)))- 128),(aB+1)))) none) none) none) none) none)) none) none) (some (.inr (.inl aA)))
def OB (O:pJ):Option (Int×Int):=ite (0<=(0:Int)/\0<(O.length:Int)) (sK (σ:=(Int×Int)) (ite (decide ((IntKind.wrap .i64 (r7 O 0))<128)) (some (.inr ((IntKind.wrap .i64 (r7 O 0)),1))) (ite ((192<=(IntKind.wrap .i64 (r7 O 0)))&&((IntKind.wrap .i64 (r7 O 0))<224)) (ite (qH ((IntKind.wrap .i64 (r7 O 0))- 192)) (some (.inl (((IntKind.wrap .i64 (r7 O 0))- 192),2))) none) (ite ((224<=(IntKind.wrap .i64 (r7 O 0)))&&((IntKind.wrap .i64 (r7 O 0))<240)) (ite (qH ((IntKind.wrap .i64 (r7 O 0))- 224)) (some (.inl (((IntKind.wrap .i64 (r7 O 0))- 224),3))) none) (ite ((240<=(IntKind.wrap .i64 (r7 O 0)))&&((IntKind.wrap .i64 (r7 O 0))<248)) (ite (qH ((IntKind.wrap .i64 (r7 O 0))- 240)) (some (.inl (((IntKind.wrap .i64 (r7 O 0))- 240),4))) none) (some (.inr (65533,1))))))) fun(a8,aA)=>ite (decide ((O.length:Int)<aA)) (some (65533,1)) (sK (rC (D7 O aA) (a8,1)) λaB=>ite (((!(((0<=aB)&&(aB<=1114111))&&((aB<55296)||(57343<aB))))==false)=true->(FH aB).isSome=true) (ite (((!(((0<=aB)&&(aB<=1114111))&&((aB<55296)||(57343<aB))))==false)=true->0<=(0:Int)/\0<=aA/\aA<=(O.length:Int)) (ite ((!(((0<=aB)&&(aB<=1114111))&&((aB<55296)||(57343<aB))))||(!decide ((val (FH aB))=(s8 O 0 aA)))) (some (65533,1)) (some (aB,aA))) none) none)) none
abbrev Wk (x:pJ):List qP:=[tv x]
@[go_sem] def Wl:pJ->r9:=λO=>rv [] (OB O) λz=>([iv (z.1),iv (z.2)],[])
@[go_sem] def aMr O:=rI Wk qV Wl O
@[go_sem] abbrev aD0:Nat×r8:=mE 215 [.v] Wk qV Wl
def Wm:qZ prog aD0:=
 rJ (rH (qO tO (qO HU (qO rY rG))) (qS Qf (qS Qq rF))) func215 81 [(2,none),(3,none)] rfl λE O=>by
  have u0:= @OB.eq_1;have u1:= @D7.eq_1
  let l1 a8:LE (D7 O a8):=⟨λx=>⟨[(0,tv O),(4,iv x.1),(5,iv a8),(6,iv x.2)],[],0,81,0⟩⟩
  let j1:JE 0 (Int×Int):=⟨λx=>⟨[(0,tv O),(4,iv x.1),(5,iv x.2)],[],0,81,0⟩⟩
  let x1 a8:XE (D7 O a8) 1 Int:=⟨λx=>⟨[(0,tv O),(4,iv x),(5,iv a8)],[],0,81,0⟩⟩
  exact rM
def OC (O:pJ):Int->Option (Int⊕(Unit⊕Int)):=λa8=>ite (decide (a8<(O.length:Int))) (ite (0<=a8/\a8<(O.length:Int)) (ite (((!((((97<=(r7 O a8))&&((r7 O a8)<=122))||((65<=(r7 O a8))&&((r7 O a8)<=90)))||((48<=(r7 O a8))&&((r7 O a8)<=57))))==true)=true->0<=a8/\a8<(O.length:Int)) (ite ((((!((((97<=(r7 O a8))&&((r7 O a8)<=122))||((65<=(r7 O a8))&&((r7 O a8)<=90)))||((48<=(r7 O a8))&&((r7 O a8)<=57))))&&(!decide ((r7 O a8)=95)))==true)=true->0<=a8/\a8<(O.length:Int)) (ite (((((!((((97<=(r7 O a8))&&((r7 O a8)<=122))||((65<=(r7 O a8))&&((r7 O a8)<=90)))||((48<=(r7 O a8))&&((r7 O a8)<=57))))&&(!decide ((r7 O a8)=95)))&&(!decide ((r7 O a8)=45)))==true)=true->0<=a8/\a8<(O.length:Int)) (ite ((((((!((((97<=(r7 O a8))&&((r7 O a8)<=122))||((65<=(r7 O a8))&&((r7 O a8)<=90)))||((48<=(r7 O a8))&&((r7 O a8)<=57))))&&(!decide ((r7 O a8)=95)))&&(!decide ((r7 O a8)=45)))&&(!decide ((r7 O a8)=46)))==true)=true->0<=a8/\a8<(O.length:Int)) (ite (((((!((((97<=(r7 O a8))&&((r7 O a8)<=122))||((65<=(r7 O a8))&&((r7 O a8)<=90)))||((48<=(r7 O a8))&&((r7 O a8)<=57))))&&(!decide ((r7 O a8)=95)))&&(!decide ((r7 O a8)=45)))&&(!decide ((r7 O a8)=46)))&&(!decide ((r7 O a8)=61))) (some (.inr (.inr (a8)))) (ite (qH (a8+1)) (some (.inl (a8+1))) none)) none) none) none) none) none) (some (.inr (.inl ())))
def T4 (O:pJ):Option Int:=sK (rC (OC O) 0) λ_=>some (O.length:Int)
abbrev Wn (x:pJ):List qP:=[tv x]
@[go_sem] def Wo:pJ->r9:=λO=>rv [] (T4 O) λz=>([iv z],[])
@[go_sem] def aMs O:=rI Wn qV Wo O
@[go_sem] abbrev aD1:Nat×r8:=mE 249 [.v] Wn qV Wo
def aD2:qZ prog aD1:=
 rJ (rH (qO rY rG) (qS Rx rF)) func249 42 [(2,none)] rfl λE O=>by
  have u0:= @T4.eq_1;have u1:= @OC.eq_1
  let l1:LE (OC O):=⟨λx=>⟨[(0,tv O),(5,iv (O.length:Int)),(6,iv x)],[],0,42,0⟩⟩
  let x1:XE (OC O) 0 Unit:=⟨λ_=>⟨[(0,tv O)],[],0,42,0⟩⟩
  exact rM
def OD (O:pJ):Int->Option (Int⊕(Unit⊕Int)):=λa8=>ite (decide (a8<(O.length:Int))) (ite (0<=a8/\a8<(O.length:Int)) (ite (!(K5 (r7 O a8))) (ite (qH (a8+1)) (some (.inl (a8+1))) none) (ite (0<=a8/\a8<(O.length:Int)) (ite (((!decide ((r7 O a8)=92))==false)=true->qH (a8+1)) (ite ((((!decide ((r7 O a8)=92))||((a8+1)=(O.length:Int)))==false)=true->qH (a8+1)) (ite ((((!decide ((r7 O a8)=92))||((a8+1)=(O.length:Int)))==false)=true->0<=(a8+1)/\(a8+1)<(O.length:Int)) (ite (((!decide ((r7 O a8)=92))||((a8+1)=(O.length:Int)))||(!(K5 (r7 O (a8+1))))) (some (.inr (.inr (a8)))) (ite (qH (a8+1)) (ite (qH ((a8+1)+1)) (some (.inl ((a8+1)+1))) none) none)) none) none) none) none)) none) (some (.inr (.inl ())))
def OE (O:pJ):Option Int:=sK (rC (OD O) 0) λ_=>some (O.length:Int)
abbrev Wp (x:pJ):List qP:=[tv x]
@[go_sem] def Wq:pJ->r9:=λO=>rv [] (OE O) λz=>([iv z],[])
@[go_sem] def aMt O:=rI Wp qV Wq O
@[go_sem] abbrev aD3:Nat×r8:=mE 251 [.v] Wp qV Wq
def Wr:qZ prog aD3:=
 rJ (rH (qO rY rG) (qS Re rF)) func251 39 [(2,none)] rfl λE O=>by
  have u0:= @OE.eq_1;have u1:= @OD.eq_1
  let l1:LE (OD O):=⟨λx=>⟨[(0,tv O),(3,iv x)],[],0,39,0⟩⟩
  let x1:XE (OD O) 0 Unit:=⟨λ_=>⟨[(0,tv O)],[],0,39,0⟩⟩
  exact rM
def vR (O:s9) (a8:Bool):Option (pJ×Ja2×Int×Int):=(vG O).bind λaA=>ite ((!decide (aA.1=9))||(!a8)) ((xZ O 3).bind λaB=>(uH (O.1,(O.2.1,(O.2.2.1,(aB.1,(aB.2,()))))) 9).bind λaC=>some (aC.1,aC.2.1,aC.2.2.1,aC.2.2.2)) ((uH O 9).bind λaD=>some (aD.1,aD.2.1,aD.2.2.1,aD.2.2.2))
abbrev Ws (x:(Bool×s9×Nat)):List qP:=[rs 0 0,bv x.1]
abbrev Wt (x:(Bool×s9×Nat)):List qQ:=[.cells tZ x.2.1 [(2,1)],.grow 9 1 x.2.2]
@[go_sem] def Wu:(Bool×s9×Nat)->r9:=fun(O,a8,aA)=>rv [aA=(a8.2.2.1.length)] (vR a8 O) λz=>([tv (z.1)],[.cells tZ (z.2.1,(a8.2.1,(a8.2.2.1,(z.2.2.1,(z.2.2.2,()))))) [(2,1)],.grow 9 1 (a8.2.2.1.length)])
@[go_sem] def aMu O a8 aA:=rI Ws Wt Wu (O,a8,aA)
@[go_sem] abbrev aD4:Nat×r8:=mE 294 [.p tZ [2],.v] Ws Wt Wu [] [1]
def wt:qZ prog aD4:=
 rJ (rH (qO D6 rG) (qS K3 (qS O7 (qS X6 rF)))) func294 17 [(4,none)] rfl λE ⟨O,a8,aA⟩=>by
  have u0:= @vR.eq_1;exact rM
attribute [irreducible] sT OA T3 uH FK OB T4 OE vR
end
noncomputable section
def OF (O:pJ):Int->Option (Int⊕(Unit⊕Bool)):=λa8=>ite (decide (a8<(O.length:Int))) (ite (0<=a8/\a8<(O.length:Int)) (ite (((!((((97<=(r7 O a8))&&((r7 O a8)<=122))||((65<=(r7 O a8))&&((r7 O a8)<=90)))||((48<=(r7 O a8))&&((r7 O a8)<=57))))==true)=true->0<=a8/\a8<(O.length:Int)) (ite ((((!((((97<=(r7 O a8))&&((r7 O a8)<=122))||((65<=(r7 O a8))&&((r7 O a8)<=90)))||((48<=(r7 O a8))&&((r7 O a8)<=57))))&&(!decide ((r7 O a8)=95)))==true)=true->0<=a8/\a8<(O.length:Int)) (ite (((!((((97<=(r7 O a8))&&((r7 O a8)<=122))||((65<=(r7 O a8))&&((r7 O a8)<=90)))||((48<=(r7 O a8))&&((r7 O a8)<=57))))&&(!decide ((r7 O a8)=95)))&&(!decide ((r7 O a8)=45))) (some (.inr (.inr (false)))) (ite (qH (a8+1)) (some (.inl (a8+1))) none)) none) none) none) (some (.inr (.inl ())))
def AS (O:pJ):Option Bool:=ite ((((O=([]:pJ))||(40<(O.length:Int)))==false)=true->0<=(0:Int)/\0<(O.length:Int)) (ite (((((O=([]:pJ))||(40<(O.length:Int)))||((r7 O 0)<97))==false)=true->0<=(0:Int)/\0<(O.length:Int)) (ite ((((O=([]:pJ))||(40<(O.length:Int)))||((r7 O 0)<97))||(122<(r7 O 0))) (some (false)) (sK (rC (OF O) 0) λ_=>some (true))) none) none
abbrev Wv (x:pJ):List qP:=[tv x]
@[go_sem] def Ww:pJ->r9:=λO=>rv [] (AS O) λz=>([bv z],[])
@[go_sem] def aMv O:=rI Wv qV Ww O
@[go_sem] abbrev aD5:Nat×r8:=mE 258 [.v] Wv qV Ww
def X7:qZ prog aD5:=
 rJ (rH (qO rY rG) (qS Rx rF)) func258 44 [(2,none)] rfl λE O=>by
  have u0:= @AS.eq_1;have u1:= @OF.eq_1
  let l1:LE (OF O):=⟨λx=>⟨[(0,tv O),(22,iv (O.length:Int)),(23,iv x)],[],0,44,0⟩⟩
  let x1:XE (OF O) 0 Unit:=⟨λ_=>⟨[],[],0,44,0⟩⟩
  exact rM
def T5 (O:rR):Option Bool:=rD (σ:=(Bool×pJ×pJ×pJ)) (ite (decide (O.1=1)) (some ((!decide (O.2.1=([]:pJ))),O.2.1,([]:pJ),([]:pJ))) (rD (σ:=Bool) (ite (decide (O.1=2)) (some (decide (O.1=2))) (ite (decide (O.1=11)) (some (decide (O.1=11))) (ite (decide (O.1=7)) (some (decide (O.1=7))) (ite (decide (O.1=8)) (some (decide (O.1=8))) (some (decide (O.1=9))))))) λa8=>ite a8 (some (true,([]:pJ),O.2.2.1,([]:pJ))) (ite (decide (O.1=3)) (some ((((O.2.2.2.1=([]:pJ))||(O.2.2.2.1=Qc4))||(O.2.2.2.1=Qc5)),([]:pJ),O.2.2.1,O.2.2.2.1)) (rD (σ:=Bool) (ite (decide (O.1=4)) (some (decide (O.1=4))) (some (decide (O.1=6)))) λaA=>ite aA ((AS O.2.2.2.1).bind λaB=>some (aB,([]:pJ),O.2.2.1,O.2.2.2.1)) (ite (decide (O.1=5)) ((K4 O.2.2.2.1).bind λaC=>some (aC,([]:pJ),O.2.2.1,O.2.2.2.1)) (ite (decide (O.1=10)) (some (true,([]:pJ),([]:pJ),([]:pJ))) (some (false,([]:pJ),([]:pJ),([]:pJ))))))))) fun(aD,aE,aF,aG)=>rD (σ:=Bool) (ite ((!decide (aF=([]:pJ)))||((!decide (O.1=1))&&(!decide (O.1=10)))) (ite ((aD==true)=true->(AS O.2.2.1).isSome=true) (some (aD&&(val (AS O.2.2.1)))) none) (some (aD))) λaH=>some (((((aH&&(O.2.1=aE))&&(O.2.2.1=aF))&&(O.2.2.2.1=aG))&&(((O.2.2.2.2.1.length:Int)=0)||((7<=O.1)&&(O.1<=9))))&&(((O.2.2.2.2.2.1.length:Int)=0)||(O.1=11)))
abbrev Wx (x:rR):List qP:=[sv sN x]
@[go_sem] def Wy:rR->r9:=λO=>rv [] (T5 O) λz=>([bv z],[])
@[go_sem] def aMw O:=rI Wx qV Wy O
@[go_sem] abbrev aD6:Nat×r8:=mE 260 [.v] Wx qV Wy
def aD7:qZ prog aD6:=
 rJ (rH (qO tO (qO rY (qO uW (qO yP (qO v6 rG))))) (qS X7 (qS Ra (qS EL rF)))) func260 136 [(2,none)] rfl λE O=>by
  have u0:= @T5.eq_1
  let j1:JE 0 (Bool×pJ×pJ×pJ):=⟨λx=>⟨[(1,rs 0 0),(3,rs 1 0),(4,bv x.1)],[(0,.cells sN O []),(1,.cells sN (O.1,(x.2.1,(x.2.2.1,(x.2.2.2,(([]:List qT),(([]:List qG),())))))) [(4,2),(5,3)]),(2,.grow 186 2 (([]:List qT).length)),(3,.grow 183 6 (([]:List qG).length))],4,136,0⟩⟩
  let j2:JE 18 Bool:=⟨λx=>⟨[(1,rs 0 0),(3,rs 1 0),(4,bv true),(9,iv O.1),(18,bv x)],[(0,.cells sN O []),(1,.cells sN (O.1,(([]:pJ),(([]:pJ),(([]:pJ),(([]:List qT),(([]:List qG),())))))) [(4,2),(5,3)]),(2,.grow 186 2 (([]:List qT).length)),(3,.grow 183 6 (([]:List qG).length))],4,136,0⟩⟩
  let j3:JE 48 Bool:=⟨λx=>⟨[(1,rs 0 0),(3,rs 1 0),(4,bv true),(9,iv O.1),(48,bv x)],[(0,.cells sN O []),(1,.cells sN (O.1,(([]:pJ),(([]:pJ),(([]:pJ),(([]:List qT),(([]:List qG),())))))) [(4,2),(5,3)]),(2,.grow 186 2 (([]:List qT).length)),(3,.grow 183 6 (([]:List qG).length))],4,136,0⟩⟩
  let j4 a8 aA aB:JE 85 Bool:=⟨λx=>⟨[(1,rs 0 0),(3,rs 1 0),(4,bv x)],[(0,.cells sN O []),(1,.cells sN (O.1,(a8,(aA,(aB,(([]:List qT),(([]:List qG),())))))) [(4,2),(5,3)]),(2,.grow 186 2 (([]:List qT).length)),(3,.grow 183 6 (([]:List qG).length))],4,136,0⟩⟩
  exact rM
def T6 (O:pJ):Int->Option (Int⊕Int):=λa8=>ite (((decide (a8<(O.length:Int)))==true)=true->0<=a8/\a8<(O.length:Int)) (ite ((a8<(O.length:Int))&&(!decide ((r7 O a8)=46))) (ite (qH (a8+1)) (some (.inl (a8+1))) none) (some (.inr a8))) none
def X8 (O:pJ):Option (Bool×pJ×pJ×Bool):=ite (((decide (0<(O.length:Int)))==true)=true->0<=(0:Int)/\0<(O.length:Int)) (rD (σ:=(pJ×Bool)) (ite ((0<(O.length:Int))&&((r7 O 0)=45)) (ite (0<=(1:Int)/\1<=(O.length:Int)/\(O.length:Int)<=(O.length:Int)) (some ((s8 O 1 (O.length:Int)),true)) none) (some (O,false))) fun(a8,aA)=>rD (rC (T6 a8) 0) λaB=>ite (0<=(0:Int)/\0<=aB/\aB<=(a8.length:Int)) (sK (σ:=pJ) (ite (decide (aB<(a8.length:Int))) (ite (qH (aB+1)) (ite (0<=(aB+1)/\(aB+1)<=(a8.length:Int)/\(a8.length:Int)<=(a8.length:Int)) (ite (decide (((s8 a8 (aB+1) (a8.length:Int)).length:Int)=0)) (some (.inr (false,([]:pJ),([]:pJ),false))) (some (.inl (s8 a8 (aB+1) (a8.length:Int))))) none) none) (some (.inl ([]:pJ)))) λaC=>ite ((((s8 a8 0 aB)++aC).length:Int)<=9223372036854775807) ((SQ ((s8 a8 0 aB)++aC)).bind λaD=>ite ((((((!aD)||(((s8 a8 0 aB).length:Int)<1))||(15<((s8 a8 0 aB).length:Int)))==false)&&((decide (1<((s8 a8 0 aB).length:Int)))==true))=true->0<=(0:Int)/\0<((s8 a8 0 aB).length:Int)) (ite ((((((((!aD)||(((s8 a8 0 aB).length:Int)<1))||(15<((s8 a8 0 aB).length:Int)))||((1<((s8 a8 0 aB).length:Int))&&((r7 (s8 a8 0 aB) 0)=48)))||(6<(aC.length:Int)))==false)&&(aA==true))=true->(((s8 a8 0 aB)++aC).length:Int)<=9223372036854775807) (ite ((((((((!aD)||(((s8 a8 0 aB).length:Int)<1))||(15<((s8 a8 0 aB).length:Int)))||((1<((s8 a8 0 aB).length:Int))&&((r7 (s8 a8 0 aB) 0)=48)))||(6<(aC.length:Int)))==false)&&(aA==true))=true->(NT ((s8 a8 0 aB)++aC)).isSome=true) (ite ((((((!aD)||(((s8 a8 0 aB).length:Int)<1))||(15<((s8 a8 0 aB).length:Int)))||((1<((s8 a8 0 aB).length:Int))&&((r7 (s8 a8 0 aB) 0)=48)))||(6<(aC.length:Int)))||(aA&&(val (NT ((s8 a8 0 aB)++aC))))) (some (false,([]:pJ),([]:pJ),false)) (some (aA,(s8 a8 0 aB),aC,true))) none) none) none) none) none) none
abbrev wu (x:pJ):List qP:=[tv x]
@[go_sem] def wv:pJ->r9:=λO=>rv [] (X8 O) λz=>([sv D1 (z.1,(z.2.1,(z.2.2.1,()))),bv (z.2.2.2)],[])
@[go_sem] def aMx O:=rI wu qV wv O
@[go_sem] abbrev aD8:Nat×r8:=mE 298 [.v] wu qV wv
def AT:wY prog [ve,SH,vf] (EF [Sh,Sk]):=⟨⟨HW,⟨rY,⟨Ls,trivial⟩⟩⟩,qS aCO (qS aCP rF),SI⟩
def aD9:qZ prog aD8:=by
 refine WK AT func298 (c:=_) rfl (N:=98) qB (ts:=[(2,some 285),(3,none)]) rfl (λ_ _=>rfl) ?_;intro O hs hrow;dsimp only[wu,qV,wv,rv,rL,E8,tD,wR,vB,E9,Nat.reduceAdd] at hs hrow|-;have hz:=hs;obtain⟨z0,f⟩:=aPc.1 hz
 try rw[S5 f]
 clear hz hs;unfold X8 at f;refine sB AT ?_;refine sB AT ?_;refine tW ?_;obtain⟨Y,f⟩:=sR f;refine sB AT ?_ (hp:=by exact⟨id,Y,id,S6⟩);obtain⟨y1,e,f⟩:=qK f;refine S4 (λs=>s=(λx=>⟨[(0,.val .str x.1,none),(2,.val .ref (some (0,0)),none),(4,.val .ref (some (1,0)),none)],[(0,.cells D1 (false,(([]:pJ),(([]:pJ),()))) []),(1,.cells D1 (x.2,(([]:pJ),(([]:pJ),()))) [])],2,98,0⟩) y1) ?_ ?_
 .refine vE e ?_ ?_<;>intro e Z
  .obtain⟨X,e⟩:=sR e;refine sr AT ?_ (hp:=by exact X);cases e;exact JR ⟨⟨[0,2,4],[(0,0),(1,64)]⟩,by rfl⟩
  refine vQ ?_;cases e;exact JR ⟨⟨[0,2,4],[(0,0),(1,64)]⟩,by rfl⟩
 rintro _ rfl;obtain⟨a8,aA⟩:=y1;dsimp only at f|-;refine tF (sB AT ?_);refine tW (xE ?_);obtain⟨aB,hy1,f⟩:=qK f;refine CW 0 (λs=>s=(λx=>⟨[(0,.val .str a8,none),(2,.val .ref (some (0,0)),none),(4,.val .ref (some (1,0)),none),(5,.val (.int .i64) x,none)],[(0,.cells D1 (false,(([]:pJ),(([]:pJ),()))) []),(1,.cells D1 (aA,(([]:pJ),(([]:pJ),()))) [])],2,98,0⟩) aB) ?_ ?_
 .refine ED hy1 (λx=>⟨[(0,.val .str a8,none),(2,.val .ref (some (0,0)),none),(4,.val .ref (some (1,0)),none),(5,.val (.int .i64) x,none)],[(0,.cells D1 (false,(([]:pJ),(([]:pJ),()))) []),(1,.cells D1 (aA,(([]:pJ),(([]:pJ),()))) [])],2,98,0⟩) ⟨[0,2,4,5],[(0,0),(1,1)]⟩ qC ?_;intro aC w1 n1 e g;unfold T6 at e;dsimp only at e|-;refine tW ?_;obtain⟨W,e⟩:=sR e;refine sB AT ?_ (hp:=by exact⟨id,id,W,id,S6⟩);refine vE e ?_ ?_<;>intro e Z
  .refine vQ (tF (xE ?_));obtain⟨V,e⟩:=sR e;refine uF AT ?_ (hp:=by exact V);refine w7 ?_;cases e;exact xP ⟨⟨[0,2,4,5],[(0,0),(1,1)]⟩,_,by rfl,g⟩
  refine EB (FD (FE ?_));cases e;cases g;exact CX ⟨⟨[0,2,4,5],[(0,0),(1,1)]⟩,by rfl⟩
 rintro _ rfl;dsimp only at f|-;refine E7 (tF ?_);obtain⟨U,f⟩:=sR f;refine sB AT ?_ (hp:=by exact U);refine tW (sB AT ?_);obtain⟨y1,e,f⟩:=a9b f;refine S4 (λs=> ∃v,y1= .inl v/\s=(λx=>⟨[(2,.val .ref (some (0,0)),none),(4,.val .ref (some (1,0)),none)],[(0,.cells D1 (false,(([]:pJ),(([]:pJ),()))) []),(1,.cells D1 (aA,((s8 a8 0 aB),(x,()))) [])],2,98,0⟩) v) ?_ ?_
 .refine vE e ?_ ?_<;>intro e Z
  .obtain⟨T,S,e⟩:=pI e;refine sB AT ?_ (hp:=by exact⟨T,S⟩);refine sB AT ?_;refine vE e ?_ ?_<;>intro e Z
   .refine sB AT ?_;refine EC (a9a (cj ?_));cases e;dsimp only at f;cases f;exact pL []
   refine vQ ?_;cases e;exact JR ⟨⟨[2,4],[(0,0),(1,1)]⟩,_,rfl,by rfl⟩
  refine vQ ?_;cases e;exact JR ⟨⟨[2,4],[(0,0),(1,1)]⟩,_,rfl,by rfl⟩
 rintro _ ⟨aD,rfl,rfl⟩;dsimp only at f|-;refine tF (tW ?_);obtain⟨R,f⟩:=sR f;obtain⟨aE,hv9,hw9,f⟩:=AL f
 try simp only[go_sem] at hw9
 obtain⟨Q,P,f⟩:=pI f;obtain⟨M,f⟩:=sR f;refine sB AT ?_ (hp:=by exact⟨R,AK hv9,id,id,id,BZ,id,id,id,BZ,id,id,id,id,id,id,Q,id,id,λhG d=>cn hG d,BZ,id,id,id,BZ,id,id,id,id,id,id,P,id,M,id,λhG d=>cn hG d,BZ⟩) (h:=by simp only[go_sem,hw9];rfl);refine vE f ?_ ?_<;>intro f Z
 .refine sB AT ?_;refine EC (cj ?_);cases f;exact pL []
 refine vQ (tF (sB AT ?_));refine EC ?_;cases f;exact pL []
def X9 (O:pJ) (a8:pJ):Option (pJ×Bool):=(X0 O a8).bind λaA=>ite (!(((a8.length:Int)<=(O.length:Int))&&((s8 O ((O.length:Int)- (a8.length:Int)) (O.length:Int))=a8))) (some (O,false)) (ite (qH ((O.length:Int)- (a8.length:Int))) (ite (0<=(0:Int)/\0<=((O.length:Int)- (a8.length:Int))/\((O.length:Int)- (a8.length:Int))<=(O.length:Int)) (some ((s8 O 0 ((O.length:Int)- (a8.length:Int))),true)) none) none)
abbrev Wz (x:(pJ×pJ)):List qP:=[tv x.1,tv x.2]
@[go_sem] def Xa:(pJ×pJ)->r9:=fun(O,a8)=>rv [] (X9 O a8) λz=>([tv (z.1),bv (z.2)],[])
@[go_sem] def aMy O a8:=rI Wz qV Xa (O,a8)
@[go_sem] abbrev aEa:Nat×r8:=mE 311 [.v,.v] Wz qV Xa
def aEb:qZ prog aEa:=
 rJ (rH (qO rY rG) (qS aCR rF)) func311 18 [(4,none),(5,none)] rfl λE ⟨O,a8⟩=>by
  have u0:= @X9.eq_1;exact rM
def OG (O:uq):Option Unit:=(NU O.2.1).bind λa8=>ite (((decide ((Lib.trimS O.2.1 Qb0)=([]:pJ)))==true)=true->(NU O.2.2.1).isSome=true) (some (())) none
abbrev Xb (x:uq):List qP:=[sv D1 x]
@[go_sem] def Xc:uq->r9:=λO=>rv [] (OG O) λz=>([bv (((Lib.trimS O.2.1 Qb0)=([]:pJ))&&((Lib.trimS O.2.2.1 Qb0)=([]:pJ)))],[])
@[go_sem] def aMz O:=rI Xb qV Xc O
@[go_sem] abbrev aEc:Nat×r8:=mE 330 [.v] Xb qV Xc
def aEd:qZ prog aEc:=
 rJ (rH (qO rY (qO vh rG)) (qS aCX rF)) func330 11 [(2,none)] rfl λE O=>by
  have u0:= @OG.eq_1;exact rM
def OH (O:tP):Int->Option (Int⊕(Unit⊕Bool)):=λa8=>ite (decide (a8<(O.2.2.2.1.length:Int))) (ite (0<=a8/\a8<(O.2.2.2.1.length:Int)) (ite (decide (300<(((qI tJ O.2.2.2.1 a8).2.2.1).length:Int))) (some (.inr (.inr (false)))) (ite (qH (a8+1)) (some (.inl (a8+1))) none)) none) (some (.inr (.inl ())))
def KF (O:tP):Option Bool:=sK (rC (OH O) 0) λ_=>(SX O).bind λa8=>some (a8&&((O.2.2.2.1.length:Int)<=8))
abbrev Xd (x:tP):List qP:=[sv vL x]
@[go_sem] def Xe:tP->r9:=λO=>rv [] (KF O) λz=>([bv z],[])
@[go_sem] def aMA O:=rI Xd qV Xe O
@[go_sem] abbrev aEe:Nat×r8:=mE 12 [.v] Xd qV Xe
def aEf:qZ prog aEe:=
 rJ (rH (qO rY (qO JY (qO D3 (qO D4 rG)))) (qS aDB rF)) func12 27 [(2,none)] rfl λE O=>by
  have u0:= @KF.eq_1;have u1:= @OH.eq_1
  let l1:LE (OH O):=⟨λx=>⟨[(1,rs 0 0),(3,iv x)],[(0,.cells vL O [])],1,27,0⟩⟩
  let x1:XE (OH O) 0 Unit:=⟨λ_=>⟨[(1,rs 0 0)],[(0,.cells vL O [])],1,27,0⟩⟩
  exact rM
attribute [irreducible] AS T5 X8 X9 OG KF
end
noncomputable section
abbrev ww (x:Ja0):List qP:=[sv (.list .part) x]
@[go_sem] def wx (O:Ja0->Option Int):Ja0->r9:=λa8=>rv [] (O a8) λz=>([iv z],[])
@[go_sem] def aMB (O:Ja0->Option Int) a8:=rI ww qV (wx O) a8
@[go_sem] abbrev XA (F:Ja0->Option Int):Nat×r8:=mE 148 [.v] ww qV (wx F)
section
variable {O:Ja0->Option Int}(hG0:qZ prog (XA O))
include hG0
def OI (a8:Ja0) (aA:Int):(pJ×Int)->Int->Option (Int⊕((Int×Int)⊕Int)):=fun(aB,aC) aD=>ite (decide (aC=(qG.un (qI .part a8 aA)).1)) (ite (qH (2+(aB.length:Int))) (ite (qH (aD+(2+(aB.length:Int)))) (some (.inl (aD+(2+(aB.length:Int))))) none) none) (some (.inl aD))
def OJ (a8:Ja0) (aA:Int) (O:Ja0->Option Int):(Int×Int)->Option ((Int×Int)⊕Int):=fun(aE,aF)=>ite (decide (aF<(((qG.un (qI .part a8 aA)).2.2.2.2.1).length:Int))) (ite (0<=aF/\aF<(((qG.un (qI .part a8 aA)).2.2.2.2.1).length:Int)) (ite (qH (4+(((qI rV ((qG.un (qI .part a8 aA)).2.2.2.2.1) aF).1).length:Int))) ((O ((qI rV ((qG.un (qI .part a8 aA)).2.2.2.2.1) aF).2.1)).bind λaG=>ite (qH ((4+(((qI rV ((qG.un (qI .part a8 aA)).2.2.2.2.1) aF).1).length:Int))+aG)) (ite (qH (aE+((4+(((qI rV ((qG.un (qI .part a8 aA)).2.2.2.2.1) aF).1).length:Int))+aG))) (ite (qH (aF+1)) (some (.inl ((aE+((4+(((qI rV ((qG.un (qI .part a8 aA)).2.2.2.2.1) aF).1).length:Int))+aG)),(aF+1)))) none) none) none) none) none) (some (.inr aE))
def T7 (a8:Ja0) (O:Ja0->Option Int):(Int×Int)->Option ((Int×Int)⊕Int):=fun(aH,aA)=>ite (decide (aA<(a8.length:Int))) (ite (0<=aA/\aA<(a8.length:Int)) (ite (decide ((qG.un (qI .part a8 aA)).1=1)) ((OA ((qG.un (qI .part a8 aA)).2.1)).bind λaI=>ite (qH (aH+(aI.length:Int))) (ite (qH (aA+1)) (some (.inl ((aH+(aI.length:Int)),(aA+1)))) none) none) (ite (decide ((qG.un (qI .part a8 aA)).1=10)) (ite (qH (aH+1)) (ite (qH (aA+1)) (some (.inl ((aH+1),(aA+1)))) none) none) (ite (decide ((qG.un (qI .part a8 aA)).1=11)) (ite (qH (3+(((qG.un (qI .part a8 aA)).2.2.1).length:Int))) (ite (qH (aH+(3+(((qG.un (qI .part a8 aA)).2.2.1).length:Int)))) (ite (decide (0<(((qG.un (qI .part a8 aA)).2.2.2.2.2.1).length:Int))) (ite (qH (2+(((qG.un (qI .part a8 aA)).2.2.1).length:Int))) ((O ((qG.un (qI .part a8 aA)).2.2.2.2.2.1)).bind λaJ=>ite (qH ((2+(((qG.un (qI .part a8 aA)).2.2.1).length:Int))+aJ)) (ite (qH ((aH+(3+(((qG.un (qI .part a8 aA)).2.2.1).length:Int)))+((2+(((qG.un (qI .part a8 aA)).2.2.1).length:Int))+aJ))) (ite (qH (aA+1)) (some (.inl (((aH+(3+(((qG.un (qI .part a8 aA)).2.2.1).length:Int)))+((2+(((qG.un (qI .part a8 aA)).2.2.1).length:Int))+aJ)),(aA+1)))) none) none) none) none) (ite (qH (aA+1)) (some (.inl ((aH+(3+(((qG.un (qI .part a8 aA)).2.2.1).length:Int))),(aA+1)))) none)) none) none) (ite (qH (2+(((qG.un (qI .part a8 aA)).2.2.1).length:Int))) (ite (qH (aH+(2+(((qG.un (qI .part a8 aA)).2.2.1).length:Int)))) (rD (SB (CZ (OI a8 aA)) (rN .str (.int .i64) Qa0 9 (rN .str (.int .i64) Qa1 8 (rN .str (.int .i64) Qa2 7 (rN .str (.int .i64) Qa3 6 (rN .str (.int .i64) Qa4 5 (rN .str (.int .i64) Qa5 4 (rN .str (.int .i64) Qa6 3 ([]:List (pJ×Int))))))))) (aH+(2+(((qG.un (qI .part a8 aA)).2.2.1).length:Int)))) λaD=>rD (σ:=Int) (ite (!decide ((qG.un (qI .part a8 aA)).2.2.2.1=([]:pJ))) (ite (qH (2+(((qG.un (qI .part a8 aA)).2.2.2.1).length:Int))) (ite (qH (aD+(2+(((qG.un (qI .part a8 aA)).2.2.2.1).length:Int)))) (some (aD+(2+(((qG.un (qI .part a8 aA)).2.2.2.1).length:Int)))) none) none) (some (aD))) λaK=>rD (σ:=Int) (ite ((7<=((qG.un (qI .part a8 aA)).1))&&(((qG.un (qI .part a8 aA)).1)<=9)) (ite (qH (aK+1)) (some (aK+1)) none) (some (aK))) λaL=>rD (rC (OJ a8 aA O) (aL,0)) λaM=>ite (qH (aA+1)) (some (.inl (aM,(aA+1)))) none) none) none)))) none) (some (.inr aH))
def OK (O:Ja0->Option Int) (a8:Ja0):Option Int:=rD (rC (T7 a8 O) (0,0)) λaN=>some (aN)
theorem v7:wY prog [ur,SH,uw,uy,uv,ux,ut] (EF [Vz,(XA O),Ph,Pm]):=⟨⟨tO,⟨rY,⟨uW,⟨yP,⟨v6,⟨AR,⟨N6,trivial⟩⟩⟩⟩⟩⟩⟩,qS Wa (qS hG0 (qS WZ (qS EL rF))),SI⟩
theorem aEg:qZ prog (XA (OK O)):=by
 refine WK (v7 hG0) func148 (c:=_) rfl (N:=108) qB (ts:=[(2,none)]) rfl (λ_ _=>rfl) ?_;intro a8 hs hrow;dsimp only[ww,qV,wx,rv,rL,E8,tD,wR,vB,E9,Nat.reduceAdd] at hs hrow|-;have hz:=hs;obtain⟨z0,g⟩:=aPc.1 hz;replace g:OK O a8=some z0:=g
 try rw[S5 g]
 clear hz hs;unfold OK at g;refine sB (v7 hG0) ?_;refine sB (v7 hG0) ?_;refine tW (sB (v7 hG0) ?_);refine xE ?_;obtain⟨aN,hy1,g⟩:=qK g;refine CW 0 (λs=>s=(λx=>⟨[(3,.val (.int .i64) x,none)],[],0,108,0⟩) aN) ?_ ?_
 .refine ED hy1 (λx=>⟨[(3,.val (.int .i64) x.1,none),(10,.val (.list .part) a8,none),(11,.val (.int .i64) (a8.length:Int),none),(12,.val (.int .i64) x.2,none)],[],0,108,0⟩) ⟨[3,10,11,12],[]⟩ qC ?_;intro x1 w1 n1 d i;obtain⟨aH,aA⟩:=x1;unfold T7 at d;dsimp only at d|-;refine sB (v7 hG0) ?_;refine tW (vE d (λd Z=>?_) (λd Z=>?_))
  .refine vQ (tF (tW (xE ?_)));obtain⟨Y,d⟩:=sR d;refine sB (v7 hG0) ?_ (hp:=by exact Y);refine sB (v7 hG0) ?_;refine xE (sB (v7 hG0) ?_);refine vE d ?_ ?_<;>intro d Z
   .obtain⟨aI,hv2,hw2,d⟩:=AL d
    try simp only[go_sem] at hw2
    obtain⟨X,d⟩:=sR d;refine uF (v7 hG0) ?_ (hp:=by exact⟨AK hv2,X⟩) (h:=by simp only[go_sem,hw2];rfl);refine w7 (w7 (tF ?_));obtain⟨W,d⟩:=sR d;refine uF (v7 hG0) ?_ (hp:=by exact W);cases d;exact xP ⟨⟨[3,10,11,12],[]⟩,_,by rfl,i⟩
   refine sB (v7 hG0) ?_;refine vE d ?_ ?_<;>intro d Z
   .obtain⟨V,d⟩:=sR d;refine uF (v7 hG0) ?_ (hp:=by exact V);refine w7 (w7 (tF ?_));obtain⟨U,d⟩:=sR d;refine uF (v7 hG0) ?_ (hp:=by exact U);cases d;exact xP ⟨⟨[3,10,11,12],[]⟩,_,by rfl,i⟩
   refine sB (v7 hG0) ?_;refine vE d ?_ ?_<;>intro d Z
   .obtain⟨T,S,d⟩:=pI d;refine sB (v7 hG0) ?_ (hp:=by exact⟨T,S⟩);refine sB (v7 hG0) ?_;refine vE d ?_ ?_<;>intro d Z
    .obtain⟨R,d⟩:=sR d;obtain⟨aJ,hv10,hw10,d⟩:=AL d
     try simp only[go_sem] at hw10
     obtain⟨Q,P,d⟩:=pI d;refine sr (v7 hG0) ?_ (hp:=by exact⟨R,AK hv10,Q,P⟩) (h:=by simp only[go_sem,hw10];rfl);refine w7 (w7 (tF ?_));obtain⟨M,d⟩:=sR d;refine uF (v7 hG0) ?_ (hp:=by exact M);cases d;exact xP ⟨⟨[3,10,11,12],[]⟩,_,by rfl,i⟩
    refine vQ (w7 (w7 (tF ?_)));obtain⟨L,d⟩:=sR d;refine uF (v7 hG0) ?_ (hp:=by exact L);cases d;exact xP ⟨⟨[3,10,11,12],[]⟩,_,by rfl,i⟩
   obtain⟨K,J,d⟩:=pI d;refine sB (v7 hG0) ?_ (hp:=by exact⟨K,J⟩);refine tW ?_;obtain⟨aD,hy2,d⟩:=qK d;refine a93 (k:= .str) (v:=(.int .i64)) (v7 hG0) qC qC hy2 qC qC qC qC qC qC qC qC qC pO aQE (by exact trivial) qC qC qC qC ⟨[3,5,10,11,12,25],[(0,96)]⟩ qC qC (λaO x=>⟨[(3,.val (.int .i64) x,none),(5,.val .ref (some (0,0)),none),(10,.val (.list .part) a8,none),(11,.val (.int .i64) (a8.length:Int),none),(12,.val (.int .i64) aA,none),(25,.itr aO,none)],[(0,.cells sN (qG.un (qI .part a8 aA)) [])],1,108,0⟩) (λx=>⟨[(3,.val (.int .i64) x,none),(5,.val .ref (some (0,0)),none),(10,.val (.list .part) a8,none),(11,.val (.int .i64) (a8.length:Int),none),(12,.val (.int .i64) aA,none)],[(0,.cells sN (qG.un (qI .part a8 aA)) [])],1,108,0⟩) (λ_=>by rfl) (λ_ _=>by rfl) (λ_ _=>by rfl) (λ_ _=>by rfl) (λ_ _=>⟨_,aQE,(by exact trivial),by rfl,⟨[3,5,10,11,12],[(0,0)]⟩,by rfl⟩) ?_ ?_
   .intro aO aB aC aD w2 e;unfold OI at e;dsimp only at e|-;refine⟨_,aQE,(by exact trivial),by rfl,by rfl,by rfl,by rfl,_,aQE,(by exact trivial),by rfl,?_⟩;refine sB (v7 hG0) ?_;refine vE e ?_ ?_<;>intro e Z
    .obtain⟨I,H,e⟩:=pI e;refine uF (v7 hG0) ?_ (hp:=by exact⟨I,H⟩);cases e;exact Jz ⟨[3,5,10,11,12,25],[(0,0)]⟩ qC qC
    refine vQ ?_;cases e;exact Jz ⟨[3,5,10,11,12,25],[(0,0)]⟩ qC qC
   refine tF (tW (sB (v7 hG0) ?_));obtain⟨aK,e,d⟩:=qK d;refine S4 (λs=>s=(λx=>⟨[(3,.val (.int .i64) x,none),(5,.val .ref (some (0,0)),none),(10,.val (.list .part) a8,none),(11,.val (.int .i64) (a8.length:Int),none),(12,.val (.int .i64) aA,none)],[(0,.cells sN (qG.un (qI .part a8 aA)) [])],1,108,0⟩) aK) ?_ ?_
   .refine vE e ?_ ?_<;>intro e Z
    .obtain⟨G,F,e⟩:=pI e;refine uF (v7 hG0) ?_ (hp:=by exact⟨G,F⟩);cases e;exact JR ⟨⟨[3,5,10,11,12],[(0,0)]⟩,by rfl⟩
    refine vQ ?_;cases e;exact JR ⟨⟨[3,5,10,11,12],[(0,0)]⟩,by rfl⟩
   rintro _ rfl;dsimp only at d|-;refine tF (tW (sB (v7 hG0) ?_));obtain⟨aL,e,d⟩:=qK d;refine S4 (λs=>s=(λx=>⟨[(3,.val (.int .i64) x,none),(5,.val .ref (some (0,0)),none),(10,.val (.list .part) a8,none),(11,.val (.int .i64) (a8.length:Int),none),(12,.val (.int .i64) aA,none)],[(0,.cells sN (qG.un (qI .part a8 aA)) [])],1,108,0⟩) aL) ?_ ?_
   .refine vE e ?_ ?_<;>intro e Z
    .obtain⟨E,e⟩:=sR e;refine uF (v7 hG0) ?_ (hp:=by exact E);cases e;exact JR ⟨⟨[3,5,10,11,12],[(0,0)]⟩,by rfl⟩
    refine vQ ?_;cases e;exact JR ⟨⟨[3,5,10,11,12],[(0,0)]⟩,by rfl⟩
   rintro _ rfl;dsimp only at d|-;refine tF (sB (v7 hG0) ?_);refine xE ?_;obtain⟨aM,hy2,d⟩:=qK d;refine CW 5 (λs=>s=(λx=>⟨[(3,.val (.int .i64) x,none),(10,.val (.list .part) a8,none),(11,.val (.int .i64) (a8.length:Int),none),(12,.val (.int .i64) aA,none)],[],0,108,0⟩) aM) ?_ ?_
   .refine ED hy2 (λx=>⟨[(3,.val (.int .i64) x.1,none),(10,.val (.list .part) a8,none),(11,.val (.int .i64) (a8.length:Int),none),(12,.val (.int .i64) aA,none),(55,.val (.list rV) ((qG.un (qI .part a8 aA)).2.2.2.2.1),none),(56,.val (.int .i64) (((qG.un (qI .part a8 aA)).2.2.2.2.1).length:Int),none),(57,.val (.int .i64) x.2,none)],[],0,108,0⟩) ⟨[3,10,11,12,55,56,57],[]⟩ qC ?_;intro x2 w2 n2 e j;obtain⟨aE,aF⟩:=x2;unfold OJ at e;dsimp only at e|-;refine sB (v7 hG0) ?_;refine tW (vE e (λe Z=>?_) (λe Z=>?_))
    .refine vQ (tF (tW (xE ?_)));obtain⟨D,e⟩:=sR e;refine sB (v7 hG0) ?_ (hp:=by exact D);obtain⟨C,e⟩:=sR e;obtain⟨aG,hv24,hw24,e⟩:=AL e
     try simp only[go_sem] at hw24
     obtain⟨B,A,e⟩:=pI e;refine sr (v7 hG0) ?_ (hp:=by exact⟨C,AK hv24,B,A⟩) (h:=by simp only[go_sem,hw24];rfl);refine w7 (tF ?_);obtain⟨z,e⟩:=sR e;refine uF (v7 hG0) ?_ (hp:=by exact z);cases e;exact xP ⟨⟨[3,10,11,12,55,56,57],[]⟩,_,by rfl,j⟩
    refine EB (FD (FE ?_));cases e;cases j;exact CX ⟨⟨[3,10,11,12],[]⟩,by rfl⟩
   rintro _ rfl;dsimp only at d|-;refine E7 (w7 (w7 (tF ?_)));obtain⟨y,d⟩:=sR d;refine uF (v7 hG0) ?_ (hp:=by exact y);cases d;exact xP ⟨⟨[3,10,11,12],[]⟩,_,by rfl,i⟩
  refine EB (FD (FE ?_));cases d;cases i;exact CX ⟨⟨[3],[]⟩,by rfl⟩
 rintro _ rfl;dsimp only at g|-;refine E7 (tF ?_);refine sB (v7 hG0) ?_;refine EC ?_;cases g;exact pL []
end
def aEh (p:(Ja0->Option Int)):(Ja0->Option Int):=OK p
def OL (n:Nat):(Ja0->Option Int):=Nat.rec (motive:=λ_=>(Ja0->Option Int)) (λ_=>none) (λ_ p=>aEh p) n
theorem Xf: ∀n:Nat,qZ prog (XA (OL n))
 |0=>uZ
 |n+1=>have h:=Xf n;aEg h
def KG:Ja0->Option Int:=(OL 1000)
@[go_sem] abbrev aEi:Nat×r8:=XA KG
theorem Xg:qZ prog aEi:=(Xf 1000)
theorem aEj:KG=(OL 1000):=rfl
def EQ (O:pJ) (a8:Ja2) (aA:Int) (aB:pR) (aC:pS) (aD:(List (pJ×Int))):Option (pJ×Int×Int×Int):=(vU O a8 aA aB aC).bind λaE=>ite ((!decide (aE=9))==false) (ite (((!decide (aE=9))==false)=true->0<=aA/\aA<(a8.length:Int)) (ite ((!decide (aE=9))||(!(!decide ((sC .str (.int .i64) aD ((qI sO a8 aA).2.1))=0)))) ((vV O a8 aA aB 3 aC).bind λaF=>some (([]:pJ),aA,aF.1,aF.2)) ((sT O a8 aA aB 9 aC).bind λaG=>some (aG.1,aG.2.1,aG.2.2.1,aG.2.2.2))) none) (ite true ((vV O a8 aA aB 3 aC).bind λaH=>some (([]:pJ),aA,aH.1,aH.2)) ((sT O a8 aA aB 9 aC).bind λaI=>some (aI.1,aI.2.1,aI.2.2.1,aI.2.2.2)))
abbrev Xh (x:(pJ×Ja2×Int×pR×pS×(List (pJ×Int)))):List qP:=[rs 0 0,sv .clo (some (253,[(1,0)]))]
abbrev Xi (x:(pJ×Ja2×Int×pR×pS×(List (pJ×Int)))):List qQ:=[.cells tG (x.1,(x.2.1,(x.2.2.1,((some 2),x.2.2.2.1)))) [],.cells .mp (some 3) [],.map .str .bool x.2.2.2.2.1,.map .str (.int .i64) x.2.2.2.2.2]
@[go_sem] def Xj:(pJ×Ja2×Int×pR×pS×(List (pJ×Int)))->r9:=fun(O,a8,aA,aB,aC,aD)=>rv [] (EQ O a8 aA aB aC aD) λz=>([tv (z.1)],[.cells tG (O,(a8,(z.2.1,((some 2),(z.2.2.1,(z.2.2.2,())))))) [],.cells .mp (some 3) [],.map .str .bool aC,.map .str (.int .i64) aD])
@[go_sem] def aMC O a8 aA aB aC aD:=rI Xh Xi Xj (O,a8,aA,aB,aC,aD)
@[go_sem] abbrev aEk:Nat×r8:=mE 254 [.p tG [],.f [(.mp,[])]] Xh Xi Xj [(0,3,.m),(1,0,.m)] [1,2,3]
theorem aEl:qZ prog aEk:=
 rJ (rH (qO tO (qO rY (qO A4 (qO zJ (qO AQ rG))))) (qS C2 (qS aCu (qS EN (qS EP rF))))) func254 28 [(4,none)] rfl λE ⟨O,a8,aA,aB,aC,aD⟩=>by
  have u0:= @EQ.eq_1
  let s1:pY:=[1000000006]
  exact rM
def OM (O:Int) (a8:pJ):(pU×Int)->Option ((pU×Int)⊕pU):=fun(aA,aB)=>ite (decide (aB<(a8.length:Int))) (ite (0<=aB/\aB<(a8.length:Int)) ((SZ O (r7 a8 aB) (decide (aB=0))).bind λaC=>ite (aA.length+aC.length<=140737488355328) (ite (qH (aB+1)) (some (.inl ((aA++tK aC),(aB+1)))) none) none) none) (some (.inr aA))
def T8 (O:Int) (a8:pJ):Option pJ:=ite (!((1<=O)&&(O<=4))) (some ([]:pJ)) (rD (rC (OM O a8) (([]:pU),0)) λaA=>some (tU aA))
abbrev Xk (x:(Int×pJ)):List qP:=[iv x.1,tv x.2]
@[go_sem] def Xl:(Int×pJ)->r9:=fun(O,a8)=>rv [] (T8 O a8) λz=>([tv z],[])
@[go_sem] def aMD O a8:=rI Xk qV Xl (O,a8)
@[go_sem] abbrev aEm:Nat×r8:=mE 62 [.v,.v] Xk qV Xl
theorem aEn:qZ prog aEm:=
 rJ (rH (qO HU (qO rY (qO HT rG))) (qS aBY (qS aDM rF))) func62 27 [(4,none)] rfl λE ⟨O,a8⟩=>by
  have u0:= @T8.eq_1;have u1:= @OM.eq_1
  let l1:LE (OM O a8):=⟨λx=>⟨[(0,iv O),(1,tv a8),(5,(.val (.list (.int .u8)) x.1,some 0)),(6,iv x.2)],[(0,.grow 5 1 (x.1.length))],1,27,0⟩⟩
  let x1:XE (OM O a8) 0 pU:=⟨λx=>⟨[(5,(.val (.list (.int .u8)) x,some 0))],[(0,.grow 5 1 (x.length))],1,27,0⟩⟩
  exact rM
attribute [irreducible] OK KG EQ T8
end
noncomputable section
abbrev Xm (x:rR):List qP:=[sv sN x,sv .clo (some (135,[]))]
@[go_sem] def Xn (O:rR->Option (Ja1×Ja0)):rR->r9:=λa8=>rv [] (O a8) λz=>([sv sN (a8.1,(a8.2.1,(a8.2.2.1,(a8.2.2.2.1,(z.1,(z.2,()))))))],[])
@[go_sem] def aME (O:rR->Option (Ja1×Ja0)) a8:=rI Xm qV (Xn O) a8
@[go_sem] abbrev wy (F:rR->Option (Ja1×Ja0)):Nat×r8:=mE 185 [.v,.v] Xm qV (Xn F)
abbrev Xo (x:Ja0):List qP:=[sv (.list .part) x]
@[go_sem] def Xp (O:Ja0->Option Ja0):Ja0->r9:=λa8=>rv [] (O a8) λz=>([(.val (.list .part) z,some 0)],[.grow 183 6 (z.length)])
@[go_sem] def aMF (O:Ja0->Option Ja0) a8:=rI Xo qV (Xp O) a8
@[go_sem] abbrev ez (F:Ja0->Option Ja0):Nat×r8:=mE 135 [.v] Xo qV (Xp F)
end
end Go.Proofs.YtedimeeleabhnaaGreatDoor
