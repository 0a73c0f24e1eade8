import Derived.KernelRfl
import Derived.Test.YtedimeeleabhnaaGreatDoorA02
set_option linter.all false
set_option maxRecDepth 100000
set_option maxHeartbeats 4000000
namespace Go.Proofs.YtedimeeleabhnaaGreatDoor
open Vc
open Tryz
noncomputable section
def O4 (O:pI):Int->Option (Int⊕(Unit⊕Bool)):=λa8=>ite (decide (a8<(O.length:Int))) (ite (0<=a8/\a8<(O.length:Int)) (ite (((!((((97<=(qZ O a8))&&((qZ O a8)<=122))||((65<=(qZ O a8))&&((qZ O a8)<=90)))||((48<=(qZ O a8))&&((qZ O a8)<=57))))==true)=true->0<=a8/\a8<(O.length:Int)) (ite ((((!((((97<=(qZ O a8))&&((qZ O a8)<=122))||((65<=(qZ O a8))&&((qZ O a8)<=90)))||((48<=(qZ O a8))&&((qZ O a8)<=57))))&&(!decide ((qZ O a8)=95)))==true)=true->0<=a8/\a8<(O.length:Int)) (ite (((!((((97<=(qZ O a8))&&((qZ O a8)<=122))||((65<=(qZ O a8))&&((qZ O a8)<=90)))||((48<=(qZ O a8))&&((qZ O a8)<=57))))&&(!decide ((qZ O a8)=95)))&&(!decide ((qZ O a8)=45))) (some (.inr (.inr (false)))) (ite (qG (a8+1)) (some (.inl (a8+1))) none)) none) none) none) (some (.inr (.inl ())))
def AL (O:pI):Option Bool:=ite ((((O=([]:pI))||(40<(O.length:Int)))==false)=true->0<=(0:Int)/\0<(O.length:Int)) (ite (((((O=([]:pI))||(40<(O.length:Int)))||((qZ O 0)<97))==false)=true->0<=(0:Int)/\0<(O.length:Int)) (ite ((((O=([]:pI))||(40<(O.length:Int)))||((qZ O 0)<97))||(122<(qZ O 0))) (some (false)) (sK (rC (O4 O) 0) λ_=>some (true))) none) none
abbrev Vh (x:pI):List qK:=[tv x]
@[go_sem] def Vi:pI->r8:=λO=>rv [] (AL O) λz=>([bv z],[])
@[go_sem] def aK4 O:=rF Vh qU Vi O
@[go_sem] abbrev aCW:Nat×r7:=mE 258 [.v] Vh qU Vi
def WX:qW prog aCW:=
 rI (rH (qO rX rG) (qQ Qk rE)) func258 44 [(2,none)] rfl λE O=>by
  have u0:= @AL.eq_1;have u1:= @O4.eq_1
  let l1:LE (O4 O):=⟨λx=>⟨[(0,tv O),(22,iv (O.length:Int)),(23,iv x)],[],0,44,0⟩⟩
  let x1:XE (O4 O) 0 Unit:=⟨λ_=>⟨[],[],0,44,0⟩⟩
  exact rK
def SK (O:rP):Option Bool:=rA (σ:=(Bool×pI×pI×pI)) (ite (decide (O.1=1)) (some ((!decide (O.2.1=([]:pI))),O.2.1,([]:pI),([]:pI))) (rA (σ:=Bool) (ite (decide (O.1=2)) (some (decide (O.1=2))) (ite (decide (O.1=11)) (some (decide (O.1=11))) (ite (decide (O.1=7)) (some (decide (O.1=7))) (ite (decide (O.1=8)) (some (decide (O.1=8))) (some (decide (O.1=9))))))) λa8=>ite a8 (some (true,([]:pI),O.2.2.1,([]:pI))) (ite (decide (O.1=3)) (some ((((O.2.2.2.1=([]:pI))||(O.2.2.2.1=([105,110,116,101,103,101,114]:pI)))||(O.2.2.2.1=([112,101,114,99,101,110,116]:pI))),([]:pI),O.2.2.1,O.2.2.2.1)) (rA (σ:=Bool) (ite (decide (O.1=4)) (some (decide (O.1=4))) (some (decide (O.1=6)))) λaA=>ite aA ((AL O.2.2.2.1).bind λaB=>some (aB,([]:pI),O.2.2.1,O.2.2.2.1)) (ite (decide (O.1=5)) ((JR O.2.2.2.1).bind λaC=>some (aC,([]:pI),O.2.2.1,O.2.2.2.1)) (ite (decide (O.1=10)) (some (true,([]:pI),([]:pI),([]:pI))) (some (false,([]:pI),([]:pI),([]:pI))))))))) fun(aD,aE,aF,aG)=>rA (σ:=Bool) (ite ((!decide (aF=([]:pI)))||((!decide (O.1=1))&&(!decide (O.1=10)))) (ite ((aD==true)=true->(AL O.2.2.1).isSome=true) (some (aD&&(val (AL O.2.2.1)))) none) (some (aD))) λaH=>some (((((aH&&(O.2.1=aE))&&(O.2.2.1=aF))&&(O.2.2.2.1=aG))&&(((O.2.2.2.2.1.length:Int)=0)||((7<=O.1)&&(O.1<=9))))&&(((O.2.2.2.2.2.1.length:Int)=0)||(O.1=11)))
abbrev Vj (x:rP):List qK:=[sv sM x]
@[go_sem] def Vk:rP->r8:=λO=>rv [] (SK O) λz=>([bv z],[])
@[go_sem] def aK5 O:=rF Vj qU Vk O
@[go_sem] abbrev aCX:Nat×r7:=mE 260 [.v] Vj qU Vk
def aCY:qW prog aCX:=
 rI (rH (qO tN (qO rX (qO uT (qO yK (qO uY rG))))) (qQ WX (qQ Po (qQ F4 rE)))) func260 136 [(2,none)] rfl λE O=>by
  have u0:= @SK.eq_1
  let j1:JE 0 (Bool×pI×pI×pI):=⟨λx=>⟨[(1,rs 0 0),(3,rs 1 0),(4,bv x.1)],[(0,.cells sM O []),(1,.cells sM (O.1,(x.2.1,(x.2.2.1,(x.2.2.2,(([]:List qS),(([]:List qF),())))))) [(4,2),(5,3)]),(2,.grow 186 2 (([]:List qS).length)),(3,.grow 183 6 (([]:List qF).length))],4,136,0⟩⟩
  let j2:JE 18 Bool:=⟨λx=>⟨[(1,rs 0 0),(3,rs 1 0),(4,bv true),(9,iv O.1),(18,bv x)],[(0,.cells sM O []),(1,.cells sM (O.1,(([]:pI),(([]:pI),(([]:pI),(([]:List qS),(([]:List qF),())))))) [(4,2),(5,3)]),(2,.grow 186 2 (([]:List qS).length)),(3,.grow 183 6 (([]:List qF).length))],4,136,0⟩⟩
  let j3:JE 48 Bool:=⟨λx=>⟨[(1,rs 0 0),(3,rs 1 0),(4,bv true),(9,iv O.1),(48,bv x)],[(0,.cells sM O []),(1,.cells sM (O.1,(([]:pI),(([]:pI),(([]:pI),(([]:List qS),(([]:List qF),())))))) [(4,2),(5,3)]),(2,.grow 186 2 (([]:List qS).length)),(3,.grow 183 6 (([]:List qF).length))],4,136,0⟩⟩
  let j4 a8 aA aB:JE 85 Bool:=⟨λx=>⟨[(1,rs 0 0),(3,rs 1 0),(4,bv x)],[(0,.cells sM O []),(1,.cells sM (O.1,(a8,(aA,(aB,(([]:List qS),(([]:List qF),())))))) [(4,2),(5,3)]),(2,.grow 186 2 (([]:List qS).length)),(3,.grow 183 6 (([]:List qF).length))],4,136,0⟩⟩
  exact rK
def SL (O:pI):Int->Option (Int⊕Int):=λa8=>ite (((decide (a8<(O.length:Int)))==true)=true->0<=a8/\a8<(O.length:Int)) (ite ((a8<(O.length:Int))&&(!decide ((qZ O a8)=46))) (ite (qG (a8+1)) (some (.inl (a8+1))) none) (some (.inr a8))) none
def WY (O:pI):Option (Bool×pI×pI×Bool):=ite (((decide (0<(O.length:Int)))==true)=true->0<=(0:Int)/\0<(O.length:Int)) (rA (σ:=(pI×Bool)) (ite ((0<(O.length:Int))&&((qZ O 0)=45)) (ite (0<=(1:Int)/\1<=(O.length:Int)/\(O.length:Int)<=(O.length:Int)) (some ((s8 O 1 (O.length:Int)),true)) none) (some (O,false))) fun(a8,aA)=>rA (rC (SL a8) 0) λaB=>ite (0<=(0:Int)/\0<=aB/\aB<=(a8.length:Int)) (sK (σ:=pI) (ite (decide (aB<(a8.length:Int))) (ite (qG (aB+1)) (ite (0<=(aB+1)/\(aB+1)<=(a8.length:Int)/\(a8.length:Int)<=(a8.length:Int)) (ite (decide (((s8 a8 (aB+1) (a8.length:Int)).length:Int)=0)) (some (.inr (false,([]:pI),([]:pI),false))) (some (.inl (s8 a8 (aB+1) (a8.length:Int))))) none) none) (some (.inl ([]:pI)))) λaC=>ite ((((s8 a8 0 aB)++aC).length:Int)<=9223372036854775807) ((S4 ((s8 a8 0 aB)++aC)).bind λaD=>ite ((((((!aD)||(((s8 a8 0 aB).length:Int)<1))||(15<((s8 a8 0 aB).length:Int)))==false)&&((decide (1<((s8 a8 0 aB).length:Int)))==true))=true->0<=(0:Int)/\0<((s8 a8 0 aB).length:Int)) (ite ((((((((!aD)||(((s8 a8 0 aB).length:Int)<1))||(15<((s8 a8 0 aB).length:Int)))||((1<((s8 a8 0 aB).length:Int))&&((qZ (s8 a8 0 aB) 0)=48)))||(6<(aC.length:Int)))==false)&&(aA==true))=true->(((s8 a8 0 aB)++aC).length:Int)<=9223372036854775807) (ite ((((((((!aD)||(((s8 a8 0 aB).length:Int)<1))||(15<((s8 a8 0 aB).length:Int)))||((1<((s8 a8 0 aB).length:Int))&&((qZ (s8 a8 0 aB) 0)=48)))||(6<(aC.length:Int)))==false)&&(aA==true))=true->(NF ((s8 a8 0 aB)++aC)).isSome=true) (ite ((((((!aD)||(((s8 a8 0 aB).length:Int)<1))||(15<((s8 a8 0 aB).length:Int)))||((1<((s8 a8 0 aB).length:Int))&&((qZ (s8 a8 0 aB) 0)=48)))||(6<(aC.length:Int)))||(aA&&(val (NF ((s8 a8 0 aB)++aC))))) (some (false,([]:pI),([]:pI),false)) (some (aA,(s8 a8 0 aB),aC,true))) none) none) none) none) none) none
abbrev uq (x:pI):List qK:=[tv x]
@[go_sem] def ur:pI->r8:=λO=>rv [] (WY O) λz=>([sv D1 (z.1,(z.2.1,(z.2.2.1,()))),bv (z.2.2.2)],[])
@[go_sem] def aK7 O:=rF uq qU ur O
@[go_sem] abbrev aC0:Nat×r7:=mE 298 [.v] uq qU ur
def AM:vP prog [tn,RV,tp] (AE [Qw,Qz]):=⟨⟨FV,⟨rX,⟨Ki,trivial⟩⟩⟩,qQ aBP (qQ aBQ rE),FW⟩
def aC1:qW prog aC0:=by
 refine MF AM func298 (c:=_) rfl (N:=98) qA (ts:=[(2,some 285),(3,none)]) rfl (λ_ _=>rfl) ?_;intro O hs hrow;dsimp only[uq,qU,ur,rv,rJ,BW,sZ,w4,uU,BX,Nat.reduceAdd] at hs hrow|-;have hz:=hs;obtain⟨z0,f⟩:=aNT.1 hz
 try rw[JG f]
 clear hz hs;unfold WY at f;refine s6 AM ?_;refine s6 AM ?_;refine tF ?_;obtain⟨Y,f⟩:=sJ f;refine s6 AM ?_ (hp:=by exact⟨id,Y,id,RH⟩);obtain⟨y1,e,f⟩:=qI f;refine RG (λs=>s=(λx=>⟨[(0,.val .str x.1,none),(2,.val .ref (some (0,0)),none),(4,.val .ref (some (1,0)),none)],[(0,.cells D1 (false,(([]:pI),(([]:pI),()))) []),(1,.cells D1 (x.2,(([]:pI),(([]:pI),()))) [])],2,98,0⟩) y1) ?_ ?_
 .refine uS e ?_ ?_<;>intro e Z
  .obtain⟨X,e⟩:=sJ e;refine W3 AM ?_ (hp:=by exact X);cases e;exact JF ⟨⟨[0,2,4],[(0,0),(1,64)]⟩,by rfl⟩
  refine uW ?_;cases e;exact JF ⟨⟨[0,2,4],[(0,0),(1,64)]⟩,by rfl⟩
 rintro _ rfl;obtain⟨a8,aA⟩:=y1;dsimp only at f|-;refine sS (s6 AM ?_);refine tF (vL ?_);obtain⟨aB,hy1,f⟩:=qI f;refine AC 0 (λs=>s=(λx=>⟨[(0,.val .str a8,none),(2,.val .ref (some (0,0)),none),(4,.val .ref (some (1,0)),none),(5,.val (.int .i64) x,none)],[(0,.cells D1 (false,(([]:pI),(([]:pI),()))) []),(1,.cells D1 (aA,(([]:pI),(([]:pI),()))) [])],2,98,0⟩) aB) ?_ ?_
 .refine B9 hy1 (λx=>⟨[(0,.val .str a8,none),(2,.val .ref (some (0,0)),none),(4,.val .ref (some (1,0)),none),(5,.val (.int .i64) x,none)],[(0,.cells D1 (false,(([]:pI),(([]:pI),()))) []),(1,.cells D1 (aA,(([]:pI),(([]:pI),()))) [])],2,98,0⟩) ⟨[0,2,4,5],[(0,0),(1,1)]⟩ qB ?_;intro aC w1 n1 e g;unfold SL at e;dsimp only at e|-;refine tF ?_;obtain⟨W,e⟩:=sJ e;refine s6 AM ?_ (hp:=by exact⟨id,id,W,id,RH⟩);refine uS e ?_ ?_<;>intro e Z
  .refine uW (sS (vL ?_));obtain⟨V,e⟩:=sJ e;refine tT AM ?_ (hp:=by exact V);refine vG ?_;cases e;exact wD ⟨⟨[0,2,4,5],[(0,0),(1,1)]⟩,_,by rfl,g⟩
  refine B7 (BV (BY ?_));cases e;cases g;exact AD ⟨⟨[0,2,4,5],[(0,0),(1,1)]⟩,by rfl⟩
 rintro _ rfl;dsimp only at f|-;refine B6 (sS ?_);obtain⟨U,f⟩:=sJ f;refine s6 AM ?_ (hp:=by exact U);refine tF (s6 AM ?_);obtain⟨y1,e,f⟩:=a8c f;refine RG (λs=> ∃v,y1= .inl v/\s=(λx=>⟨[(2,.val .ref (some (0,0)),none),(4,.val .ref (some (1,0)),none)],[(0,.cells D1 (false,(([]:pI),(([]:pI),()))) []),(1,.cells D1 (aA,((s8 a8 0 aB),(x,()))) [])],2,98,0⟩) v) ?_ ?_
 .refine uS e ?_ ?_<;>intro e Z
  .obtain⟨T,S,e⟩:=pH e;refine s6 AM ?_ (hp:=by exact⟨T,S⟩);refine s6 AM ?_;refine uS e ?_ ?_<;>intro e Z
   .refine s6 AM ?_;refine B8 (a8b (VV ?_));cases e;dsimp only at f;cases f;exact pK []
   refine uW ?_;cases e;exact JF ⟨⟨[2,4],[(0,0),(1,1)]⟩,_,rfl,by rfl⟩
  refine uW ?_;cases e;exact JF ⟨⟨[2,4],[(0,0),(1,1)]⟩,_,rfl,by rfl⟩
 rintro _ ⟨aD,rfl,rfl⟩;dsimp only at f|-;refine sS (tF ?_);obtain⟨R,f⟩:=sJ f;obtain⟨aE,hv9,hw9,f⟩:=xR f
 try simp only[go_sem] at hw9
 obtain⟨Q,P,f⟩:=pH f;obtain⟨M,f⟩:=sJ f;refine s6 AM ?_ (hp:=by exact⟨R,xQ hv9,id,id,id,BZ,id,id,id,BZ,id,id,id,id,id,id,Q,id,id,λhG d=>bz hG d,BZ,id,id,id,BZ,id,id,id,id,id,id,P,id,M,id,λhG d=>bz hG d,BZ⟩) (h:=by simp only[go_sem,hw9];rfl);refine uS f ?_ ?_<;>intro f Z
 .refine s6 AM ?_;refine B8 (VV ?_);cases f;exact pK []
 refine uW (sS (s6 AM ?_));refine B8 ?_;cases f;exact pK []
def WZ (O:pI) (a8:pI):Option (pI×Bool):=(WK O a8).bind λaA=>ite (!(((a8.length:Int)<=(O.length:Int))&&((s8 O ((O.length:Int)- (a8.length:Int)) (O.length:Int))=a8))) (some (O,false)) (ite (qG ((O.length:Int)- (a8.length:Int))) (ite (0<=(0:Int)/\0<=((O.length:Int)- (a8.length:Int))/\((O.length:Int)- (a8.length:Int))<=(O.length:Int)) (some ((s8 O 0 ((O.length:Int)- (a8.length:Int))),true)) none) none)
abbrev Vo (x:(pI×pI)):List qK:=[tv x.1,tv x.2]
@[go_sem] def Vp:(pI×pI)->r8:=fun(O,a8)=>rv [] (WZ O a8) λz=>([tv (z.1),bv (z.2)],[])
@[go_sem] def aK8 O a8:=rF Vo qU Vp (O,a8)
@[go_sem] abbrev aC2:Nat×r7:=mE 311 [.v,.v] Vo qU Vp
def aC3:qW prog aC2:=
 rI (rH (qO rX rG) (qQ aBS rE)) func311 18 [(4,none),(5,none)] rfl λE ⟨O,a8⟩=>by
  have u0:= @WZ.eq_1;exact rK
def O5 (O:tg):Option Unit:=(N9 O.2.1).bind λa8=>ite (((decide ((Lib.trimS O.2.1 ([48]:pI))=([]:pI)))==true)=true->(N9 O.2.2.1).isSome=true) (some (())) none
abbrev Vq (x:tg):List qK:=[sv D1 x]
@[go_sem] def Vr:tg->r8:=λO=>rv [] (O5 O) λz=>([bv (((Lib.trimS O.2.1 ([48]:pI))=([]:pI))&&((Lib.trimS O.2.2.1 ([48]:pI))=([]:pI)))],[])
@[go_sem] def aK9 O:=rF Vq qU Vr O
@[go_sem] abbrev aC4:Nat×r7:=mE 330 [.v] Vq qU Vr
def aC5:qW prog aC4:=
 rI (rH (qO rX (qO tq rG)) (qQ aBK rE)) func330 11 [(2,none)] rfl λE O=>by
  have u0:= @O5.eq_1;exact rK
def O9 (O:uC):Int->Option (Int⊕(Unit⊕Bool)):=λa8=>ite (decide (a8<(O.2.2.2.1.length:Int))) (ite (0<=a8/\a8<(O.2.2.2.1.length:Int)) (ite (decide (300<(((qH tJ O.2.2.2.1 a8).2.2.1).length:Int))) (some (.inr (.inr (false)))) (ite (qG (a8+1)) (some (.inl (a8+1))) none)) none) (some (.inr (.inl ())))
def SO (O:uC):Option Bool:=sK (rC (O9 O) 0) λ_=>(SC O).bind λa8=>some (a8&&((O.2.2.2.1.length:Int)<=8))
abbrev Vx (x:uC):List qK:=[sv wE x]
@[go_sem] def Vy:uC->r8:=λO=>rv [] (SO O) λz=>([bv z],[])
@[go_sem] def aLc O:=rF Vx qU Vy O
@[go_sem] abbrev aDb:Nat×r7:=mE 12 [.v] Vx qU Vy
def aDc:qW prog aDb:=
 rI (rH (qO rX (qO JL (qO E9 (qO D2 rG)))) (qQ aCs rE)) func12 27 [(2,none)] rfl λE O=>by
  have u0:= @SO.eq_1;have u1:= @O9.eq_1
  let l1:LE (O9 O):=⟨λx=>⟨[(1,rs 0 0),(3,iv x)],[(0,.cells wE O [])],1,27,0⟩⟩
  let x1:XE (O9 O) 0 Unit:=⟨λ_=>⟨[(1,rs 0 0)],[(0,.cells wE O [])],1,27,0⟩⟩
  exact rK
attribute [irreducible] AL SK WY WZ O5 SO
end
noncomputable section
abbrev ut (x:Ja0):List qK:=[sv (.list .part) x]
@[go_sem] def uv (O:Ja0->Option Int):Ja0->r8:=λa8=>rv [] (O a8) λz=>([iv z],[])
@[go_sem] def aLa (O:Ja0->Option Int) a8:=rF ut qU (uv O) a8
@[go_sem] abbrev X0 (F:Ja0->Option Int):Nat×r7:=mE 148 [.v] ut qU (uv F)
section
variable {O:Ja0->Option Int}(hG0:qW prog (X0 O))
include hG0
def O6 (a8:Ja0) (aA:Int):(pI×Int)->Int->Option (Int⊕((Int×Int)⊕Int)):=fun(aB,aC) aD=>ite (decide (aC=(qF.un (qH .part a8 aA)).1)) (ite (qG (2+(aB.length:Int))) (ite (qG (aD+(2+(aB.length:Int)))) (some (.inl (aD+(2+(aB.length:Int))))) none) none) (some (.inl aD))
def O7 (a8:Ja0) (aA:Int) (O:Ja0->Option Int):(Int×Int)->Option ((Int×Int)⊕Int):=fun(aE,aF)=>ite (decide (aF<(((qF.un (qH .part a8 aA)).2.2.2.2.1).length:Int))) (ite (0<=aF/\aF<(((qF.un (qH .part a8 aA)).2.2.2.2.1).length:Int)) (ite (qG (4+(((qH rT ((qF.un (qH .part a8 aA)).2.2.2.2.1) aF).1).length:Int))) ((O ((qH rT ((qF.un (qH .part a8 aA)).2.2.2.2.1) aF).2.1)).bind λaG=>ite (qG ((4+(((qH rT ((qF.un (qH .part a8 aA)).2.2.2.2.1) aF).1).length:Int))+aG)) (ite (qG (aE+((4+(((qH rT ((qF.un (qH .part a8 aA)).2.2.2.2.1) aF).1).length:Int))+aG))) (ite (qG (aF+1)) (some (.inl ((aE+((4+(((qH rT ((qF.un (qH .part a8 aA)).2.2.2.2.1) aF).1).length:Int))+aG)),(aF+1)))) none) none) none) none) none) (some (.inr aE))
def SM (a8:Ja0) (O:Ja0->Option Int):(Int×Int)->Option ((Int×Int)⊕Int):=fun(aH,aA)=>ite (decide (aA<(a8.length:Int))) (ite (0<=aA/\aA<(a8.length:Int)) (ite (decide ((qF.un (qH .part a8 aA)).1=1)) ((NY ((qF.un (qH .part a8 aA)).2.1)).bind λaI=>ite (qG (aH+(aI.length:Int))) (ite (qG (aA+1)) (some (.inl ((aH+(aI.length:Int)),(aA+1)))) none) none) (ite (decide ((qF.un (qH .part a8 aA)).1=10)) (ite (qG (aH+1)) (ite (qG (aA+1)) (some (.inl ((aH+1),(aA+1)))) none) none) (ite (decide ((qF.un (qH .part a8 aA)).1=11)) (ite (qG (3+(((qF.un (qH .part a8 aA)).2.2.1).length:Int))) (ite (qG (aH+(3+(((qF.un (qH .part a8 aA)).2.2.1).length:Int)))) (ite (decide (0<(((qF.un (qH .part a8 aA)).2.2.2.2.2.1).length:Int))) (ite (qG (2+(((qF.un (qH .part a8 aA)).2.2.1).length:Int))) ((O ((qF.un (qH .part a8 aA)).2.2.2.2.2.1)).bind λaJ=>ite (qG ((2+(((qF.un (qH .part a8 aA)).2.2.1).length:Int))+aJ)) (ite (qG ((aH+(3+(((qF.un (qH .part a8 aA)).2.2.1).length:Int)))+((2+(((qF.un (qH .part a8 aA)).2.2.1).length:Int))+aJ))) (ite (qG (aA+1)) (some (.inl (((aH+(3+(((qF.un (qH .part a8 aA)).2.2.1).length:Int)))+((2+(((qF.un (qH .part a8 aA)).2.2.1).length:Int))+aJ)),(aA+1)))) none) none) none) none) (ite (qG (aA+1)) (some (.inl ((aH+(3+(((qF.un (qH .part a8 aA)).2.2.1).length:Int))),(aA+1)))) none)) none) none) (ite (qG (2+(((qF.un (qH .part a8 aA)).2.2.1).length:Int))) (ite (qG (aH+(2+(((qF.un (qH .part a8 aA)).2.2.1).length:Int)))) (rA (RN (CY (O6 a8 aA)) (rL .str (.int .i64) ([115,101,108,101,99,116]:pI) 9 (rL .str (.int .i64) ([111,114,100,105,110,97,108]:pI) 8 (rL .str (.int .i64) ([112,108,117,114,97,108]:pI) 7 (rL .str (.int .i64) ([108,105,115,116]:pI) 6 (rL .str (.int .i64) ([100,97,116,101]:pI) 5 (rL .str (.int .i64) ([117,110,105,116]:pI) 4 (rL .str (.int .i64) ([110,117,109,98,101,114]:pI) 3 ([]:List (pI×Int))))))))) (aH+(2+(((qF.un (qH .part a8 aA)).2.2.1).length:Int)))) λaD=>rA (σ:=Int) (ite (!decide ((qF.un (qH .part a8 aA)).2.2.2.1=([]:pI))) (ite (qG (2+(((qF.un (qH .part a8 aA)).2.2.2.1).length:Int))) (ite (qG (aD+(2+(((qF.un (qH .part a8 aA)).2.2.2.1).length:Int)))) (some (aD+(2+(((qF.un (qH .part a8 aA)).2.2.2.1).length:Int)))) none) none) (some (aD))) λaK=>rA (σ:=Int) (ite ((7<=((qF.un (qH .part a8 aA)).1))&&(((qF.un (qH .part a8 aA)).1)<=9)) (ite (qG (aK+1)) (some (aK+1)) none) (some (aK))) λaL=>rA (rC (O7 a8 aA O) (aL,0)) λaM=>ite (qG (aA+1)) (some (.inl (aM,(aA+1)))) none) none) none)))) none) (some (.inr aH))
def O8 (O:Ja0->Option Int) (a8:Ja0):Option Int:=rA (rC (SM a8 O) (0,0)) λaN=>some (aN)
theorem uZ:vP prog [dh,RV,MV,tj,MU,WB,th] (AE [Ug,(X0 O),Nt,dq]):=⟨⟨tN,⟨rX,⟨uT,⟨yK,⟨uY,⟨AK,⟨MT,trivial⟩⟩⟩⟩⟩⟩⟩,qQ Uh (qQ hG0 (qQ WJ (qQ F4 rE))),FW⟩
theorem aC6:qW prog (X0 (O8 O)):=by
 refine MF (uZ hG0) func148 (c:=_) rfl (N:=108) qA (ts:=[(2,none)]) rfl (λ_ _=>rfl) ?_;intro a8 hs hrow;dsimp only[ut,qU,uv,rv,rJ,BW,sZ,w4,uU,BX,Nat.reduceAdd] at hs hrow|-;have hz:=hs;obtain⟨z0,g⟩:=aNT.1 hz;replace g:O8 O a8=some z0:=g
 try rw[JG g]
 clear hz hs;unfold O8 at g;refine s6 (uZ hG0) ?_;refine s6 (uZ hG0) ?_;refine tF (s6 (uZ hG0) ?_);refine vL ?_;obtain⟨aN,hy1,g⟩:=qI g;refine AC 0 (λs=>s=(λx=>⟨[(3,.val (.int .i64) x,none)],[],0,108,0⟩) aN) ?_ ?_
 .refine B9 hy1 (λx=>⟨[(3,.val (.int .i64) x.1,none),(10,.val (.list .part) a8,none),(11,.val (.int .i64) (a8.length:Int),none),(12,.val (.int .i64) x.2,none)],[],0,108,0⟩) ⟨[3,10,11,12],[]⟩ qB ?_;intro x1 w1 n1 d i;obtain⟨aH,aA⟩:=x1;unfold SM at d;dsimp only at d|-;refine s6 (uZ hG0) ?_;refine tF (uS d (λd Z=>?_) (λd Z=>?_))
  .refine uW (sS (tF (vL ?_)));obtain⟨Y,d⟩:=sJ d;refine s6 (uZ hG0) ?_ (hp:=by exact Y);refine s6 (uZ hG0) ?_;refine vL (s6 (uZ hG0) ?_);refine uS d ?_ ?_<;>intro d Z
   .obtain⟨aI,hv2,hw2,d⟩:=xR d
    try simp only[go_sem] at hw2
    obtain⟨X,d⟩:=sJ d;refine tT (uZ hG0) ?_ (hp:=by exact⟨xQ hv2,X⟩) (h:=by simp only[go_sem,hw2];rfl);refine vG (vG (sS ?_));obtain⟨W,d⟩:=sJ d;refine tT (uZ hG0) ?_ (hp:=by exact W);cases d;exact wD ⟨⟨[3,10,11,12],[]⟩,_,by rfl,i⟩
   refine s6 (uZ hG0) ?_;refine uS d ?_ ?_<;>intro d Z
   .obtain⟨V,d⟩:=sJ d;refine tT (uZ hG0) ?_ (hp:=by exact V);refine vG (vG (sS ?_));obtain⟨U,d⟩:=sJ d;refine tT (uZ hG0) ?_ (hp:=by exact U);cases d;exact wD ⟨⟨[3,10,11,12],[]⟩,_,by rfl,i⟩
   refine s6 (uZ hG0) ?_;refine uS d ?_ ?_<;>intro d Z
   .obtain⟨T,S,d⟩:=pH d;refine s6 (uZ hG0) ?_ (hp:=by exact⟨T,S⟩);refine s6 (uZ hG0) ?_;refine uS d ?_ ?_<;>intro d Z
    .obtain⟨R,d⟩:=sJ d;obtain⟨aJ,hv10,hw10,d⟩:=xR d
     try simp only[go_sem] at hw10
     obtain⟨Q,P,d⟩:=pH d;refine W3 (uZ hG0) ?_ (hp:=by exact⟨R,xQ hv10,Q,P⟩) (h:=by simp only[go_sem,hw10];rfl);refine vG (vG (sS ?_));obtain⟨M,d⟩:=sJ d;refine tT (uZ hG0) ?_ (hp:=by exact M);cases d;exact wD ⟨⟨[3,10,11,12],[]⟩,_,by rfl,i⟩
    refine uW (vG (vG (sS ?_)));obtain⟨L,d⟩:=sJ d;refine tT (uZ hG0) ?_ (hp:=by exact L);cases d;exact wD ⟨⟨[3,10,11,12],[]⟩,_,by rfl,i⟩
   obtain⟨K,J,d⟩:=pH d;refine s6 (uZ hG0) ?_ (hp:=by exact⟨K,J⟩);refine tF ?_;obtain⟨aD,hy2,d⟩:=qI d;refine a84 (k:= .str) (v:=(.int .i64)) (uZ hG0) qB qB hy2 qB qB qB qB qB qB qB qB qB pN aPu (by exact trivial) qB qB qB qB ⟨[3,5,10,11,12,25],[(0,96)]⟩ qB qB (λaO x=>⟨[(3,.val (.int .i64) x,none),(5,.val .ref (some (0,0)),none),(10,.val (.list .part) a8,none),(11,.val (.int .i64) (a8.length:Int),none),(12,.val (.int .i64) aA,none),(25,.itr aO,none)],[(0,.cells sM (qF.un (qH .part a8 aA)) [])],1,108,0⟩) (λx=>⟨[(3,.val (.int .i64) x,none),(5,.val .ref (some (0,0)),none),(10,.val (.list .part) a8,none),(11,.val (.int .i64) (a8.length:Int),none),(12,.val (.int .i64) aA,none)],[(0,.cells sM (qF.un (qH .part a8 aA)) [])],1,108,0⟩) (λ_=>by rfl) (λ_ _=>by rfl) (λ_ _=>by rfl) (λ_ _=>by rfl) (λ_ _=>⟨_,aPu,(by exact trivial),by rfl,⟨[3,5,10,11,12],[(0,0)]⟩,by rfl⟩) ?_ ?_
   .intro aO aB aC aD w2 e;unfold O6 at e;dsimp only at e|-;refine⟨_,aPu,(by exact trivial),by rfl,by rfl,by rfl,by rfl,_,aPu,(by exact trivial),by rfl,?_⟩;refine s6 (uZ hG0) ?_;refine uS e ?_ ?_<;>intro e Z
    .obtain⟨I,H,e⟩:=pH e;refine tT (uZ hG0) ?_ (hp:=by exact⟨I,H⟩);cases e;exact Io ⟨[3,5,10,11,12,25],[(0,0)]⟩ qB qB
    refine uW ?_;cases e;exact Io ⟨[3,5,10,11,12,25],[(0,0)]⟩ qB qB
   refine sS (tF (s6 (uZ hG0) ?_));obtain⟨aK,e,d⟩:=qI d;refine RG (λs=>s=(λx=>⟨[(3,.val (.int .i64) x,none),(5,.val .ref (some (0,0)),none),(10,.val (.list .part) a8,none),(11,.val (.int .i64) (a8.length:Int),none),(12,.val (.int .i64) aA,none)],[(0,.cells sM (qF.un (qH .part a8 aA)) [])],1,108,0⟩) aK) ?_ ?_
   .refine uS e ?_ ?_<;>intro e Z
    .obtain⟨G,F,e⟩:=pH e;refine tT (uZ hG0) ?_ (hp:=by exact⟨G,F⟩);cases e;exact JF ⟨⟨[3,5,10,11,12],[(0,0)]⟩,by rfl⟩
    refine uW ?_;cases e;exact JF ⟨⟨[3,5,10,11,12],[(0,0)]⟩,by rfl⟩
   rintro _ rfl;dsimp only at d|-;refine sS (tF (s6 (uZ hG0) ?_));obtain⟨aL,e,d⟩:=qI d;refine RG (λs=>s=(λx=>⟨[(3,.val (.int .i64) x,none),(5,.val .ref (some (0,0)),none),(10,.val (.list .part) a8,none),(11,.val (.int .i64) (a8.length:Int),none),(12,.val (.int .i64) aA,none)],[(0,.cells sM (qF.un (qH .part a8 aA)) [])],1,108,0⟩) aL) ?_ ?_
   .refine uS e ?_ ?_<;>intro e Z
    .obtain⟨E,e⟩:=sJ e;refine tT (uZ hG0) ?_ (hp:=by exact E);cases e;exact JF ⟨⟨[3,5,10,11,12],[(0,0)]⟩,by rfl⟩
    refine uW ?_;cases e;exact JF ⟨⟨[3,5,10,11,12],[(0,0)]⟩,by rfl⟩
   rintro _ rfl;dsimp only at d|-;refine sS (s6 (uZ hG0) ?_);refine vL ?_;obtain⟨aM,hy2,d⟩:=qI d;refine AC 5 (λs=>s=(λx=>⟨[(3,.val (.int .i64) x,none),(10,.val (.list .part) a8,none),(11,.val (.int .i64) (a8.length:Int),none),(12,.val (.int .i64) aA,none)],[],0,108,0⟩) aM) ?_ ?_
   .refine B9 hy2 (λx=>⟨[(3,.val (.int .i64) x.1,none),(10,.val (.list .part) a8,none),(11,.val (.int .i64) (a8.length:Int),none),(12,.val (.int .i64) aA,none),(55,.val (.list rT) ((qF.un (qH .part a8 aA)).2.2.2.2.1),none),(56,.val (.int .i64) (((qF.un (qH .part a8 aA)).2.2.2.2.1).length:Int),none),(57,.val (.int .i64) x.2,none)],[],0,108,0⟩) ⟨[3,10,11,12,55,56,57],[]⟩ qB ?_;intro x2 w2 n2 e j;obtain⟨aE,aF⟩:=x2;unfold O7 at e;dsimp only at e|-;refine s6 (uZ hG0) ?_;refine tF (uS e (λe Z=>?_) (λe Z=>?_))
    .refine uW (sS (tF (vL ?_)));obtain⟨D,e⟩:=sJ e;refine s6 (uZ hG0) ?_ (hp:=by exact D);obtain⟨C,e⟩:=sJ e;obtain⟨aG,hv24,hw24,e⟩:=xR e
     try simp only[go_sem] at hw24
     obtain⟨B,A,e⟩:=pH e;refine W3 (uZ hG0) ?_ (hp:=by exact⟨C,xQ hv24,B,A⟩) (h:=by simp only[go_sem,hw24];rfl);refine vG (sS ?_);obtain⟨z,e⟩:=sJ e;refine tT (uZ hG0) ?_ (hp:=by exact z);cases e;exact wD ⟨⟨[3,10,11,12,55,56,57],[]⟩,_,by rfl,j⟩
    refine B7 (BV (BY ?_));cases e;cases j;exact AD ⟨⟨[3,10,11,12],[]⟩,by rfl⟩
   rintro _ rfl;dsimp only at d|-;refine B6 (vG (vG (sS ?_)));obtain⟨y,d⟩:=sJ d;refine tT (uZ hG0) ?_ (hp:=by exact y);cases d;exact wD ⟨⟨[3,10,11,12],[]⟩,_,by rfl,i⟩
  refine B7 (BV (BY ?_));cases d;cases i;exact AD ⟨⟨[3],[]⟩,by rfl⟩
 rintro _ rfl;dsimp only at g|-;refine B6 (sS ?_);refine s6 (uZ hG0) ?_;refine B8 ?_;cases g;exact pK []
end
def aC7 (p:(Ja0->Option Int)):(Ja0->Option Int):=O8 p
def SN (n:Nat):(Ja0->Option Int):=Nat.rec (motive:=λ_=>(Ja0->Option Int)) (λ_=>none) (λ_ p=>aC7 p) n
theorem Vs: ∀n:Nat,qW prog (X0 (SN n))
 |0=>uX
 |n+1=>have h:=Vs n;aC6 h
def JZ:Ja0->Option Int:=(SN 1000)
@[go_sem] abbrev aC8:Nat×r7:=X0 JZ
theorem Vt:qW prog aC8:=(Vs 1000)
theorem aMM:JZ=(SN 1000):=rfl
def EF (O:pI) (a8:Ja2) (aA:Int) (aB:pQ) (aC:pR) (aD:(List (pI×Int))):Option (pI×Int×Int×Int):=(vQ O a8 aA aB aC).bind λaE=>ite ((!decide (aE=9))==false) (ite (((!decide (aE=9))==false)=true->0<=aA/\aA<(a8.length:Int)) (ite ((!decide (aE=9))||(!(!decide ((sE .str (.int .i64) aD ((qH sN a8 aA).2.1))=0)))) ((vR O a8 aA aB 3 aC).bind λaF=>some (([]:pI),aA,aF.1,aF.2)) ((sT O a8 aA aB 9 aC).bind λaG=>some (aG.1,aG.2.1,aG.2.2.1,aG.2.2.2))) none) (ite true ((vR O a8 aA aB 3 aC).bind λaH=>some (([]:pI),aA,aH.1,aH.2)) ((sT O a8 aA aB 9 aC).bind λaI=>some (aI.1,aI.2.1,aI.2.2.1,aI.2.2.2)))
abbrev Vu (x:(pI×Ja2×Int×pQ×pR×(List (pI×Int)))):List qK:=[rs 0 0,sv .clo (some (253,[(1,0)]))]
abbrev Vv (x:(pI×Ja2×Int×pQ×pR×(List (pI×Int)))):List qP:=[.cells tG (x.1,(x.2.1,(x.2.2.1,((some 2),x.2.2.2.1)))) [],.cells .mp (some 3) [],.map .str .bool x.2.2.2.2.1,.map .str (.int .i64) x.2.2.2.2.2]
@[go_sem] def Vw:(pI×Ja2×Int×pQ×pR×(List (pI×Int)))->r8:=fun(O,a8,aA,aB,aC,aD)=>rv [] (EF O a8 aA aB aC aD) λz=>([tv (z.1)],[.cells tG (O,(a8,(z.2.1,((some 2),(z.2.2.1,(z.2.2.2,())))))) [],.cells .mp (some 3) [],.map .str .bool aC,.map .str (.int .i64) aD])
@[go_sem] def aLb O a8 aA aB aC aD:=rF Vu Vv Vw (O,a8,aA,aB,aC,aD)
@[go_sem] abbrev aC9:Nat×r7:=mE 254 [.p tG [],.f [(.mp,[])]] Vu Vv Vw [(0,3,.m),(1,0,.m)] [1,2,3]
theorem aDa:qW prog aC9:=
 rI (rH (qO tN (qO rX (qO zY (qO zD (qO AJ rG))))) (qQ C2 (qQ aBt (qQ EC (qQ ED rE))))) func254 28 [(4,none)] rfl λE ⟨O,a8,aA,aB,aC,aD⟩=>by
  have u0:= @EF.eq_1
  let s1:pX:=[1000000006]
  exact rK
def OK (O:Int) (a8:pI):(pT×Int)->Option ((pT×Int)⊕pT):=fun(aA,aB)=>ite (decide (aB<(a8.length:Int))) (ite (0<=aB/\aB<(a8.length:Int)) ((SE O (qZ a8 aB) (decide (aB=0))).bind λaC=>ite (aA.length+aC.length<=140737488355328) (ite (qG (aB+1)) (some (.inl ((aA++tK aC),(aB+1)))) none) none) none) (some (.inr aA))
def T0 (O:Int) (a8:pI):Option pI:=ite (!((1<=O)&&(O<=4))) (some ([]:pI)) (rA (rC (OK O a8) (([]:pT),0)) λaA=>some (tQ aA))
abbrev Xu (x:(Int×pI)):List qK:=[iv x.1,tv x.2]
@[go_sem] def Xv:(Int×pI)->r8:=fun(O,a8)=>rv [] (T0 O a8) λz=>([tv z],[])
@[go_sem] def aLu O a8:=rF Xu qU Xv (O,a8)
@[go_sem] abbrev aDK:Nat×r7:=mE 62 [.v,.v] Xu qU Xv
theorem aDL:qW prog aDK:=
 rI (rH (qO HH (qO rX (qO HG rG))) (qQ aAX (qQ aCB rE))) func62 27 [(4,none)] rfl λE ⟨O,a8⟩=>by
  have u0:= @T0.eq_1;have u1:= @OK.eq_1
  let l1:LE (OK O a8):=⟨λx=>⟨[(0,iv O),(1,tv a8),(5,(.val (.list (.int .u8)) x.1,some 0)),(6,iv x.2)],[(0,.grow 5 1 (x.1.length))],1,27,0⟩⟩
  let x1:XE (OK O a8) 0 pT:=⟨λx=>⟨[(5,(.val (.list (.int .u8)) x,some 0))],[(0,.grow 5 1 (x.length))],1,27,0⟩⟩
  exact rK
attribute [irreducible] O8 JZ EF T0
end
noncomputable section
abbrev uw (x:rP):List qK:=[sv sM x,sv .clo (some (135,[]))]
@[go_sem] def ux (O:rP->Option (Ja1×Ja0)):rP->r8:=λa8=>rv [] (O a8) λz=>([sv sM (a8.1,(a8.2.1,(a8.2.2.1,(a8.2.2.2.1,(z.1,(z.2,()))))))],[])
@[go_sem] def aLd (O:rP->Option (Ja1×Ja0)) a8:=rF uw qU (ux O) a8
@[go_sem] abbrev uy (F:rP->Option (Ja1×Ja0)):Nat×r7:=mE 185 [.v,.v] uw qU (ux F)
abbrev Vz (x:Ja0):List qK:=[sv (.list .part) x]
@[go_sem] def Wa (O:Ja0->Option Ja0):Ja0->r8:=λa8=>rv [] (O a8) λz=>([(.val (.list .part) z,some 0)],[.grow 183 6 (z.length)])
@[go_sem] def aLe (O:Ja0->Option Ja0) a8:=rF Vz qU (Wa O) a8
@[go_sem] abbrev SP (F:Ja0->Option Ja0):Nat×r7:=mE 135 [.v] Vz qU (Wa F)
section
variable {O:rP->Option (Ja1×Ja0)}{a8:Ja0->Option Ja0}(hG0:qW prog (uy O)) (hG1:qW prog (SP a8))
include hG0 hG1
def X1 (aA:Ja1) (a8:Ja0->Option Ja0):(Int×Ja1×Nat)->Option ((Int×Ja1×Nat)⊕(Ja1×Nat)):=fun(aB,aC,aD)=>ite (decide (aB<(((aA.length):Nat):Int))) (ite (0<=aB/\aB<((aD:Nat):Int)) ((a8 ((qH rT aC aB).2.1)).bind λaE=>ite (0<=aB/\aB<((aD:Nat):Int)) (ite (qG (aB+1)) (some (.inl ((aB+1),(List.set aC (Int.toNat aB) ((qH rT aC aB).1,(aE,(qH rT aC aB).2.2))),aD))) none) none) none) (some (.inr (aC,aD)))
def HR (O:rP->Option (Ja1×Ja0)) (a8:Ja0->Option Ja0) (aF:rP):Option (Ja1×Ja0):=ite (!((7<=aF.1)&&(aF.1<=9))) ((a8 aF.2.2.2.2.2.1).bind λaG=>some (aF.2.2.2.2.1,aG)) ((NR aF.2.2.2.2.1).bind λaA=>rA (rC (X1 aA a8) (0,aA,(aA.length))) fun(aH,aI)=>some (aH,aF.2.2.2.2.2.1))
theorem OA:vP prog [dh,MV,RW,MU] (AE [dq,(SP a8),WV]):=⟨⟨tN,⟨uT,⟨WC,⟨uY,trivial⟩⟩⟩⟩,qQ F4 (qQ hG1 (qQ Sy rE)),FW⟩
theorem SQ:vP prog [MV,RW,MU,WB] (AE [dq,(SP a8),WV]):=⟨⟨uT,⟨WC,⟨uY,⟨AK,trivial⟩⟩⟩⟩,(OA hG0 hG1).Γ,FW⟩
theorem aDd:qW prog (uy (HR O a8)):=by
 refine MF (OA hG0 hG1) func185 (c:=_) rfl (N:=41) qA (ts:=[(4,some 183)]) rfl (λ_ _=>rfl) ?_;intro aF hs hrow;dsimp only[uw,qU,ux,rv,rJ,BW,sZ,w4,uU,BX,Nat.reduceAdd] at hs hrow|-;have hz:=hs;obtain⟨z0,e⟩:=aNT.1 hz;replace e:HR O a8 aF=some z0:=e
 try rw[JG e]
 clear hz hs;unfold HR at e;refine s6 (OA hG0 hG1) ?_;refine tF (s6 (OA hG0 hG1) ?_);refine uS e ?_ ?_<;>intro e Z
 .obtain⟨aG,hv1,hw1,e⟩:=xR e
  try simp only[go_sem] at hw1
  refine s6 (OA hG0 hG1) ?_ (hp:=by exact(xQ hv1)) (h:=by simp only[go_sem,hw1];rfl);refine s6 (OA hG0 hG1) ?_;refine B8 (VV ?_);cases e;exact pK []
 refine uW (sS ?_);obtain⟨aA,hv2,hw2,e⟩:=xR e
 try simp only[go_sem] at hw2
 refine s6 (OA hG0 hG1) ?_ (hp:=by exact(xQ hv2)) (h:=by simp only[go_sem,hw2];rfl);refine tF (s6 (SQ hG0 hG1) ?_);refine vL ?_;obtain⟨y1,hy1,e⟩:=qI e;refine AC 0 (λs=>s=(λx=>⟨[(2,.val .ref (some (0,0)),none),(4,.val .ref (some (1,0)),none)],[(0,.cells db (aF.1,(aF.2.1,(aF.2.2.1,(aF.2.2.2.1,((some (2,x.2)),(aF.2.2.2.2.2.1,())))))) []),(1,.cells sM (0,(([]:pI),(([]:pI),(([]:pI),(([]:List qS),(([]:List qF),())))))) [(4,3),(5,4)]),(2,.row 186 rT x.1 x.2),(3,.grow 186 2 (([]:List qS).length)),(4,.grow 183 6 (([]:List qF).length))],5,41,0⟩) y1) ?_ ?_
 .refine B9 hy1 (λx=>⟨[(1,.val .clo (some (135,[])),none),(2,.val .ref (some (0,0)),none),(4,.val .ref (some (1,0)),none),(22,.val (.int .i64) (((aA.length):Nat):Int),none),(23,.val (.int .i64) x.1,none)],[(0,.cells db (aF.1,(aF.2.1,(aF.2.2.1,(aF.2.2.2.1,((some (2,x.2.2)),(aF.2.2.2.2.2.1,())))))) []),(1,.cells sM (0,(([]:pI),(([]:pI),(([]:pI),(([]:List qS),(([]:List qF),())))))) [(4,3),(5,4)]),(2,.row 186 rT x.2.1 x.2.2),(3,.grow 186 2 (([]:List qS).length)),(4,.grow 183 6 (([]:List qF).length))],5,41,0⟩) ⟨[1,2,4,22,23],[(0,0),(1,32),(2,256),(3,33),(4,34)]⟩ qB ?_;intro x1 w1 n1 d g;obtain⟨aB,aC,aD⟩:=x1;unfold X1 at d;dsimp only at d|-;refine s6 (SQ hG0 hG1) ?_;refine tF (uS d (λd Z=>?_) (λd Z=>?_))
  .refine uW (sS (tF (vL (s6 (SQ hG0 hG1) ?_))));obtain⟨Y,d⟩:=sJ d;obtain⟨aE,hv4,hw4,d⟩:=xR d
   try simp only[go_sem] at hw4
   obtain⟨X,d⟩:=sJ d;refine W3 (SQ hG0 hG1) ?_ (hp:=by exact⟨Y,qC,xQ hv4,X,qC⟩) (h:=by simp only[go_sem,hw4];rfl)
   refine vG (sS ?_);obtain⟨W,d⟩:=sJ d;refine tT (SQ hG0 hG1) ?_ (hp:=by exact W);cases d;exact wD ⟨⟨[1,2,4,22,23],[(0,0),(1,1),(2,2),(3,3),(4,4)]⟩,_,by rfl,g⟩
  refine B7 (BV (BY ?_));cases d;cases g;exact AD ⟨⟨[2,4],[(0,0),(1,1),(2,2),(3,3),(4,4)]⟩,by rfl⟩
 rintro _ rfl;obtain⟨aH,aI⟩:=y1;dsimp only at e|-;refine B6 (sS ?_);refine s6 (SQ hG0 hG1) ?_ (hp:=by first|rfl|trivial)
 refine B8 ?_;cases e;exact pK []
def OB (aJ:Ja0) (O:rP->Option (Ja1×Ja0)):(Ja0×Int)->Option ((Ja0×Int)⊕Ja0):=fun(aK,aL)=>ite (decide (aL<(aJ.length:Int))) (ite (0<=aL/\aL<(aJ.length:Int)) ((NL (qF.un (qH .part aJ aL))).bind λaG=>ite (!aG) ((O (qF.un (qH .part aJ aL))).bind λaA=>ite ((aK.length+([(qF.of ((qF.un (qH .part aJ aL)).1,((qF.un (qH .part aJ aL)).2.1,((qF.un (qH .part aJ aL)).2.2.1,((qF.un (qH .part aJ aL)).2.2.2.1,(aA.1,(aA.2,())))))))]:List qF).length)*104<=140737488355328) (ite (qG (aL+1)) (some (.inl ((aK++([(qF.of ((qF.un (qH .part aJ aL)).1,((qF.un (qH .part aJ aL)).2.1,((qF.un (qH .part aJ aL)).2.2.1,((qF.un (qH .part aJ aL)).2.2.2.1,(aA.1,(aA.2,())))))))]:List qF)),(aL+1)))) none) none) (ite (qG (aL+1)) (some (.inl (aK,(aL+1)))) none)) none) (some (.inr aK))
def SR (O:rP->Option (Ja1×Ja0)) (a8:Ja0->Option Ja0) (aJ:Ja0):Option Ja0:=rA (rC (OB aJ O) (([]:List qF),0)) λaM=>some (aM)
theorem aDe:qW prog (SP (SR O a8)):=
 rI (rH (qO uT (qO uY rG)) (qQ uj (qQ hG0 rE))) func135 22 [(2,none)] rfl λE aJ=>by
  have u0:= @SR.eq_1;have u1:= @OB.eq_1
  let l1:LE (OB aJ O):=⟨λx=>⟨[(3,(.val (.list .part) x.1,some 0)),(6,sv (.list .part) aJ),(7,iv (aJ.length:Int)),(8,iv x.2)],[(0,.grow 183 6 (x.1.length))],1,22,0⟩⟩
  let x1:XE (OB aJ O) 0 Ja0:=⟨λx=>⟨[(3,(.val (.list .part) x,some 0))],[(0,.grow 183 6 (x.length))],1,22,0⟩⟩
  exact rK
end
def aDf (p:(rP->Option (Ja1×Ja0))×(Ja0->Option Ja0)):(rP->Option (Ja1×Ja0))×(Ja0->Option Ja0):=(HR p.1 p.2,SR p.1 p.2)
def C3 (n:Nat):(rP->Option (Ja1×Ja0))×(Ja0->Option Ja0):=Nat.rec (motive:=λ_=>(rP->Option (Ja1×Ja0))×(Ja0->Option Ja0)) ((λ_=>none),(λ_=>none)) (λ_ p=>aDf p) n
theorem Wb: ∀n:Nat,qW prog (uy (C3 n).1)/\qW prog (SP (C3 n).2)
 |0=>⟨uX,uX⟩
 |n+1=>have h:=Wb n;⟨aDd h.1 h.2,aDe h.1 h.2⟩
def X2:Ja0->Option Ja0:=(C3 1000).2
@[go_sem] abbrev aDg:Nat×r7:=SP X2
theorem aDh:qW prog aDg:=(Wb 1000).2
theorem aMN:X2=(C3 1000).2:=rfl
abbrev uz (x:Ja0):List qK:=[sv (.list .part) x]
@[go_sem] def vc (O:Ja0->Option Ja0):Ja0->r8:=λa8=>rv [] (O a8) λz=>([(.val (.list .part) z,some 0)],[.grow 183 6 (z.length)])
@[go_sem] def aLf (O:Ja0->Option Ja0) a8:=rF uz qU (vc O) a8
@[go_sem] abbrev SS (F:Ja0->Option Ja0):Nat×r7:=mE 186 [.v] uz qU (vc F)
section
variable {O:Ja0->Option Ja0}(hG0:qW prog (SS O))
include hG0
def X3 (a8:Ja1) (O:Ja0->Option Ja0):(Int×Ja1×Nat)->Option ((Int×Ja1×Nat)⊕(Ja1×Nat)):=fun(aA,aB,aC)=>ite (decide (aA<(((a8.length):Nat):Int))) (ite (0<=aA/\aA<((aC:Nat):Int)) ((O ((qH rT aB aA).2.1)).bind λaD=>ite (0<=aA/\aA<((aC:Nat):Int)) (ite (qG (aA+1)) (some (.inl ((aA+1),(List.set aB (Int.toNat aA) ((qH rT aB aA).1,(aD,(qH rT aB aA).2.2))),aC))) none) none) none) (some (.inr (aB,aC)))
def X4 (aE:Ja0) (O:Ja0->Option Ja0):(Ja0×Int)->Option ((Ja0×Int)⊕Ja0):=fun(aF,aG)=>ite (decide (aG<(aE.length:Int))) (ite (0<=aG/\aG<(aE.length:Int)) ((O ((qF.un (qH .part aE aG)).2.2.2.2.2.1)).bind λaH=>(NR ((qF.un (qH .part aE aG)).2.2.2.2.1)).bind λa8=>rA (rC (X3 a8 O) (0,a8,(a8.length))) fun(aI,aJ)=>ite ((aF.length+([(qF.of ((qF.un (qH .part aE aG)).1,((qF.un (qH .part aE aG)).2.1,((qF.un (qH .part aE aG)).2.2.1,((qF.un (qH .part aE aG)).2.2.2.1,(aI,(aH,())))))))]:List qF).length)*104<=140737488355328) (ite (qG (aG+1)) (some (.inl ((aF++([(qF.of ((qF.un (qH .part aE aG)).1,((qF.un (qH .part aE aG)).2.1,((qF.un (qH .part aE aG)).2.2.1,((qF.un (qH .part aE aG)).2.2.2.1,(aI,(aH,())))))))]:List qF)),(aG+1)))) none) none) none) (some (.inr aF))
def OC (O:Ja0->Option Ja0) (aE:Ja0):Option Ja0:=rA (rC (X4 aE O) (([]:List qF),0)) λaK=>some (aK)
theorem F7:vP prog [MV,RW,MU] (AE [(SS O),WV]):=⟨⟨uT,⟨WC,⟨uY,trivial⟩⟩⟩,qQ hG0 (qQ Sy rE),FW⟩
theorem ST:vP prog [MV,RW,MU,WB] (AE [(SS O),WV]):=⟨⟨uT,⟨WC,⟨uY,⟨AK,trivial⟩⟩⟩⟩,(F7 hG0).Γ,FW⟩
theorem aDi:qW prog (SS (OC O)):=by
 refine MF (F7 hG0) func186 (c:=_) rfl (N:=46) qA (ts:=[(2,none)]) rfl (λ_ _=>rfl) ?_;intro aE hs hrow;dsimp only[uz,qU,vc,rv,rJ,BW,sZ,w4,uU,BX,Nat.reduceAdd] at hs hrow|-;have hz:=hs;obtain⟨z0,e⟩:=aNT.1 hz;replace e:OC O aE=some z0:=e
 try rw[JG e]
 clear hz hs;unfold OC at e;refine s6 (F7 hG0) ?_;refine s6 (F7 hG0) ?_;refine tF (s6 (F7 hG0) ?_);refine vL ?_;obtain⟨aK,hy1,e⟩:=qI e;refine AC 0 (λs=>s=(λx=>⟨[(3,(.val (.list .part) x,some 0))],[(0,.grow 183 6 (x.length))],1,46,0⟩) aK) ?_ ?_
 .refine B9 hy1 (λx=>⟨[(3,(.val (.list .part) x.1,some 0)),(7,(.val (.list .part) aE,none)),(8,.val (.int .i64) (aE.length:Int),none),(9,.val (.int .i64) x.2,none)],[(0,.grow 183 6 (x.1.length))],1,46,0⟩) ⟨[3,7,8,9],[(0,32)]⟩ qB ?_;intro x1 w1 n1 d g;obtain⟨aF,aG⟩:=x1;unfold X4 at d;dsimp only at d|-;refine s6 (F7 hG0) ?_;refine tF (uS d (λd Z=>?_) (λd Z=>?_))
  .refine uW (sS (tF (vL ?_)));obtain⟨Y,d⟩:=sJ d;refine s6 (F7 hG0) ?_ (hp:=by exact Y);obtain⟨aH,hv2,hw2,d⟩:=xR d
   try simp only[go_sem] at hw2
   refine s6 (F7 hG0) ?_ (hp:=by exact(xQ hv2)) (h:=by simp only[go_sem,hw2];rfl);obtain⟨a8,hv3,hw3,d⟩:=xR d
   try simp only[go_sem] at hw3
   refine s6 (F7 hG0) ?_ (hp:=by exact(xQ hv3)) (h:=by simp only[go_sem,hw3];rfl);refine tF (s6 (ST hG0) ?_);refine vL ?_;obtain⟨y2,hy2,d⟩:=qI d;refine AC 2 (λs=>s=(λx=>⟨[(3,(.val (.list .part) aF,some 0)),(5,(.val .ref (some (1,0)),none)),(7,.val (.list .part) aE,none),(8,.val (.int .i64) (aE.length:Int),none),(9,.val (.int .i64) aG,none)],[(0,.grow 183 6 (aF.length)),(1,.cells db ((qF.un (qH .part aE aG)).1,((qF.un (qH .part aE aG)).2.1,((qF.un (qH .part aE aG)).2.2.1,((qF.un (qH .part aE aG)).2.2.2.1,((some (2,x.2)),(aH,())))))) []),(2,.row 186 rT x.1 x.2)],3,46,0⟩) y2) ?_ ?_
   .refine B9 hy2 (λx=>⟨[(3,(.val (.list .part) aF,some 0)),(5,(.val .ref (some (1,0)),none)),(7,.val (.list .part) aE,none),(8,.val (.int .i64) (aE.length:Int),none),(9,.val (.int .i64) aG,none),(23,.val (.int .i64) (((a8.length):Nat):Int),none),(24,.val (.int .i64) x.1,none)],[(0,.grow 183 6 (aF.length)),(1,.cells db ((qF.un (qH .part aE aG)).1,((qF.un (qH .part aE aG)).2.1,((qF.un (qH .part aE aG)).2.2.1,((qF.un (qH .part aE aG)).2.2.2.1,((some (2,x.2.2)),(aH,())))))) []),(2,.row 186 rT x.2.1 x.2.2)],3,46,0⟩) ⟨[3,5,7,8,9,23,24],[(0,0),(1,97),(2,385)]⟩ qB ?_;intro x2 w2 n2 f i;obtain⟨aA,aB,aC⟩:=x2;unfold X3 at f;dsimp only at f|-;refine s6 (ST hG0) ?_;refine tF (uS f (λf Z=>?_) (λf Z=>?_))
    .refine uW (sS (tF (vL (s6 (ST hG0) ?_))));obtain⟨X,f⟩:=sJ f;obtain⟨aD,hv5,hw5,f⟩:=xR f
     try simp only[go_sem] at hw5
     obtain⟨W,f⟩:=sJ f;refine W3 (ST hG0) ?_ (hp:=by exact⟨X,qC,xQ hv5,W,qC⟩) (h:=by simp only[go_sem,hw5];rfl)
     refine vG (sS ?_);obtain⟨V,f⟩:=sJ f;refine tT (ST hG0) ?_ (hp:=by exact V);cases f;exact wD ⟨⟨[3,5,7,8,9,23,24],[(0,0),(1,1),(2,2)]⟩,_,by rfl,i⟩
    refine B7 (BV (BY ?_));cases f;cases i;exact AD ⟨⟨[3,5,7,8,9],[(0,0),(1,1),(2,2)]⟩,by rfl⟩
   rintro _ rfl;obtain⟨aI,aJ⟩:=y2;dsimp only at d|-;refine B6 (sS ?_);obtain⟨U,d⟩:=sJ d;refine tT (ST hG0) ?_ (hp:=by exact⟨qC,qC,U⟩)
   refine vG (sS ?_);obtain⟨T,d⟩:=sJ d;refine tT (F7 hG0) ?_ (hp:=by exact T);cases d;exact wD ⟨⟨[3,7,8,9],[(0,0)]⟩,_,by rfl,g⟩
  refine B7 (BV (BY ?_));cases d;cases g;exact AD ⟨⟨[3],[(0,0)]⟩,by rfl⟩
 rintro _ rfl;dsimp only at e|-;refine B6 (sS ?_);refine s6 (F7 hG0) ?_;refine B8 ?_;cases e;exact pK [(0,0)]
end
def aDj (p:(Ja0->Option Ja0)):(Ja0->Option Ja0):=OC p
def OD (n:Nat):(Ja0->Option Ja0):=Nat.rec (motive:=λ_=>(Ja0->Option Ja0)) (λ_=>none) (λ_ p=>aDj p) n
theorem Wc: ∀n:Nat,qW prog (SS (OD n))
 |0=>uX
 |n+1=>have h:=Wc n;aDi h
def HS:Ja0->Option Ja0:=(OD 1000)
@[go_sem] abbrev aDk:Nat×r7:=SS HS
theorem Wd:qW prog aDk:=(Wc 1000)
theorem aMO:HS=(OD 1000):=rfl
def X5 (O:pI):Option Unit:=(G4 O).bind λa8=>some (())
abbrev We (x:pI):List qK:=[tv x]
@[go_sem] def Wf:pI->r8:=λO=>rv [] (X5 O) λz=>([bv (!(((O.length:Int)<=4000)&&(Lib.validD O)))],[])
@[go_sem] def aLg O:=rF We qU Wf O
@[go_sem] abbrev aDl:Nat×r7:=mE 87 [.v] We qU Wf
theorem aDm:qW prog aDl:=
 rI (rH rG (qQ uk rE)) func87 6 [(2,none)] rfl λE O=>by
  have u0:= @X5.eq_1;exact rK
attribute [irreducible] HR SR X2 OC HS X5
end
noncomputable section
abbrev Wi (x:(Ja0×(pT×Unit)×Nat)):List qK:=[rs 0 0,sv (.list .part) x.1]
abbrev Wj (x:(Ja0×(pT×Unit)×Nat)):List qP:=[.cells (.pair vA .unit) (((some (0,0)),x.2.1),()) [(1,1)],.grow 5 1 x.2.2]
@[go_sem] def Wk (O:(pT×Unit)->Ja0->Option pT):(Ja0×(pT×Unit)×Nat)->r8:=fun(a8,aA,aB)=>rv [aB=(aA.1.length)] (O aA a8) λz=>([],[.cells (.pair vA .unit) (((some (0,0)),(z,())),()) [(1,1)],.grow 5 1 (z.length)])
@[go_sem] def aLi (O:(pT×Unit)->Ja0->Option pT) a8 aA aB:=rF Wi Wj (Wk O) (a8,aA,aB)
@[go_sem] abbrev eo (F:(pT×Unit)->Ja0->Option pT):Nat×r7:=mE 150 [.p (.pair vA .unit) [1],.v] Wi Wj (Wk F)
abbrev Wl (x:(rP×(pT×Unit)×Nat)):List qK:=[rs 0 0,sv sM x.1]
abbrev Wm (x:(rP×(pT×Unit)×Nat)):List qP:=[.cells (.pair vA .unit) (((some (0,0)),x.2.1),()) [(1,1)],.grow 5 1 x.2.2]
end
end Go.Proofs.YtedimeeleabhnaaGreatDoor
