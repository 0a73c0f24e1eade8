/- ReviseAtoms returns true for every catalog and body (revise.Atoms and revise.Message agree with the reference): the tied card of the statement, over the row's statement. No condition. -/
import Derived.Deep.CondSized
import Derived.Deep.DeepHandedRow
import Derived.Deep.DeepWitnessRowRef
import Derived.Lib.ItoaLen
import Derived.Lib.ItoaMem
import Derived.Lib.LaidIn
import Derived.Lib.LaidTab
import Derived.Lib.LaidU8T
import Derived.OpenShut
import Derived.ProofKit
import Derived.SevenTiedAt
import Derived.SizedLaws
import Derived.Test.YtedimeeleabhnaaGreatDoorCards
import Derived.Test.YtedimeeleabhnaaGreatDoorRows
import Derived.Test.YtedimeeleabhnaaGreatDoorTie
import Derived.WalkKit
import Derived.Test.YtedimeeleabhnaaGreatDoorA04a
set_option linter.all false
set_option maxRecDepth 100000
set_option maxHeartbeats 4000000
namespace Go.Proofs.YtedimeeleabhnaaGreatDoor
open Vc
mutual
def PZ (R:pJ):qF->pJ
 | .mk k _ n _ cs ps=>if k=11 then A4 R ps else if n=[] then(if 7<=k/\k<=9 then CF R cs else R) else wJ (if 7<=k/\k<=9 then CF R cs else R) n
termination_by p=>SizeOf.sizeOf p
def A4 (R:pJ):List qF->pJ
 |[]=>R
 |p::l=>A4 (PZ R p) l
termination_by l=>SizeOf.sizeOf l
def CF (R:pJ):List (pI×List qF×Unit)->pJ
 |[]=>R
 |(_,ps,_)::l=>CF (A4 R ps) l
termination_by l=>SizeOf.sizeOf l
end
def a4q {R:List rU}{k:Int}{t n st:pI}{cs:List rM}{ps:List qF}:PZ R (.mk k t n st cs ps)=if k=11 then A4 R ps else if n=[] then(if 7<=k/\k<=9 then CF R cs else R) else wJ (if 7<=k/\k<=9 then CF R cs else R) n:=by rw[PZ]
def a4r {R:List rU}:A4 R []=R:=by rw[A4]
def a4s {R:List rU}{p:qF}{l:List qF}:A4 R (p::l)=A4 (PZ R p) l:=by rw[A4]
def aH7 {R:List rU}:CF R []=R:=by rw[CF]
def aH8 {R:List rU}{x:rM}{l:List rM}:CF R (x::l)=CF (A4 R x.2.1) l:=by obtain⟨a,b,u⟩:=x;rw[CF]
abbrev il:Type:=Nm->List qF->Int->Bool->Option (Bool×Nm)
def Y5 (GP:il) (D d:Nat) (ps:List qF):Prop:= ∀(R:List rU) (c:Bool),∃m',GP (s5 R) ps (D:Int) c=some (tR d c false ps,m')/\(tR d c false ps=true->m'=s5 (A4 R ps))
section
variable {GP:il}{k:Int}{t n st:pI}{cs:List rM}{ps:List qF}
def a4t {D d:Nat}{c:Bool}(E: ∀x∈cs,Y5 GP D d x.2.1) (G:wC cs<=1000000000):
  ∀(m j:Nat) (R keys:List rU),j+m=cs.length->∃w,rC (I4 (k,(t,(n,(st,(cs,(ps,())))))) (D:Int) c GP) ((j:Int),s5 R,s5 keys)=some w/\
   (if yD k d (c|| !decide (k=9)) keys (cs.drop j)=true then w= .inl (s5 (CF R (cs.drop j)),s5 (keys++(cs.drop j).map (·.1))) else∃m',w= .inr (false,m'))
 |0,j,R,keys,K=>by
  have:j=cs.length:=by omega
  subst this;refine⟨.inl (s5 R,s5 keys),?_,?_⟩
  .rw[tA];unfold I4;dsimp only;rw[aM9 (sO _)];rfl
  .rw[aNH,a4k,aH7,aM4 rfl];simp
 |m+1,j,R,keys,K=>by
  have z:j<cs.length:=by omega
  have Q:=yC (aNc z);have U:=BJ cs;obtain⟨m',O,M⟩:=E _ (aNc z) R (c|| !decide (k=9))
  rw[aNm z,yx,tA];have I:I4 (k,(t,(n,(st,(cs,(ps,())))))) (D:Int) c GP ((j:Int),s5 R,s5 keys)=
    if (tM k cs[j].1&& !decide (cs[j].1∈keys))=true then(if tR d (c|| !decide (k=9)) false cs[j].2.1=true then some (.inl ((j:Int)+1,m',s5 (keys++[cs[j].1]))) else some (.inr (.inr (false,m')))) else some (.inr (.inr (false,s5 R))):=by
   unfold I4;dsimp only;rw[v7 (t:=rT) z,aM4 (sI z),aM4 (rO z),gl _ _ aPI,aM3,KY];cases hk:(tM k cs[j].1&& !decide (cs[j].1∈keys)) with
   |false=>
    have e:((!tM k cs[j].1||decide (cs[j].1∈keys))==false)=false:=by
     revert hk;cases tM k cs[j].1<;>cases decide (cs[j].1∈keys)<;>simp
    rw[e];rfl
   |true=>
    have e:(!tM k cs[j].1||decide (cs[j].1∈keys))=false:=by
     revert hk;cases tM k cs[j].1<;>cases decide (cs[j].1∈keys)<;>simp
    have F:cs[j].1∉keys:=by
     revert e;cases tM k cs[j].1<;>simp
    rw[e,aM4 rfl,O,aM4 (λ_=>uH _),uB,aM4 rfl,aM4 (s7 pM),PS];unfold wJ;rw[aM9 F];cases tR d (c|| !decide (k=9)) false cs[j].2.1<;>rfl
  rw[I];cases hk:(tM k cs[j].1&& !decide (cs[j].1∈keys)) with
  |false=>
   rw[aM9 (show¬false=true by simp),aM3];dsimp only;exact⟨_,rfl,s5 R,rfl⟩
  |true=>
   rw[aM4 rfl];cases hf:tR d (c|| !decide (k=9)) false cs[j].2.1 with
   |false=>
    rw[aM9 (show¬false=true by simp),aM3];dsimp only;exact⟨_,rfl,m',rfl⟩
   |true=>
    rw[aM4 rfl,aM3];dsimp only;rw[M hf,show ((j:Int)+1)=((j+1:Nat):Int) by omega,Bool.true_and,Bool.true_and];obtain⟨w,w1,w2⟩:=a4t E G m (j+1) (A4 R cs[j].2.1) (keys++[cs[j].1]) pM (c:=c);refine⟨w,w1,?_⟩;rw[aH8,aN8];rw[aNd] at w2;exact w2
def aH9 {D d:Nat}{c:Bool}(j: ∀x∈cs,Y5 GP D d x.2.1) (E:wC cs<=1000000000) {g1}(R:List rU):
  ∃m',K9 g1 GP (s5 R) (k,(t,(n,(st,(cs,(ps,())))))) (D:Int) c=some (decide (cs.length<=20)&&(yD k d (c|| !decide (k=9)) [] cs&&decide (L6∈cs.map (·.1))),m')/\
   (yD k d (c|| !decide (k=9)) [] cs=true->m'=s5 (CF R cs)):=by
 obtain⟨w,w1,w2⟩:=a4t (t:=t) (n:=n) (st:=st) (ps:=ps) (k:=k) (c:=c) j E cs.length 0 R [] pM;rw[aNG] at w2;unfold K9;rw[show rC (I4 (k,(t,(n,(st,(cs,(ps,())))))) (D:Int) c GP) ((0:Int),s5 R,([]:pR))=some w from w1];unfold sK;rw[aM3];cases z:yD k d (c|| !decide (k=9)) [] cs with
 |true=>
  rw[z,aM4 rfl] at w2;subst w2;dsimp only;rw[KY,List.nil_append,Bool.true_and];exact⟨_,by rw[show decide ((cs.length:Int)<=20)=decide (cs.length<=20) by rw[aNv];simp;omega],λ_=>rfl⟩
 |false=>
  rw[z,aM9 (show¬false=true by simp)] at w2;obtain⟨m',rfl⟩:=w2;rw[aOs,Bool.and_false];exact⟨m',rfl,λh=>by cases h⟩
end
abbrev KCT:Type:=Nm->L2->Int->Bool->Option (Bool×Nm)
section
variable {l:List qF}{GP:il}{GC:KCT}{i:Nat}{k:Int}{t n st:pI}{cs:List rM}{ps:List qF}
def aIa (hi:i<l.length) (F:l[i]= .mk k t n st cs ps) {D d:Nat}(hc:d=D+1) (hD:D<=100) {c:Bool}(K:Y5 GP (D+1) (d+1) ps)
  (Z: ∀R:List rU,∃m',GC (s5 R) (k,(t,(n,(st,(cs,(ps,())))))) ((D:Int)+1) c=some (decide (cs.length<=20)&&(yD k (d+1) (c|| !decide (k=9)) [] cs&&decide (L6∈cs.map (·.1))),m')/\(yD k (d+1) (c|| !decide (k=9)) [] cs=true->m'=s5 (CF R cs))) (hw:wL l<=1000000000) (R:List rU):
  ∃w,I5 l (D:Int) c GC GP ((i:Int),s5 R)=some w/\(if (!(A3 l i&&w9 l[i])&&CE d c l[i])=true then w= .inl ((i:Int)+1,s5 (PZ R l[i])) else∃m',w= .inr (.inr (false,m'))):=by
 have ha:=CD l;have G:=yP (aNc hi);rw[F,vN] at G;have I:=a4l hi;have M:decide (k=1)=w9 l[i]:=by rw[F];rfl
 have U:fit n:=by unfold fit;omega
 have Q:fit st:=by unfold fit;omega
 have Y:decide ((8:Int)<=(D:Int))= !decide (d<=8):=by rw[aNv];simp;omega
 unfold I5;dsimp only;rw[xB hi F];dsimp only;rw[aM4 (sI hi),aM4 (rO hi),aH3 U Q,aM3,M,I,Y];have E:qG ((i:Int)+1):=s7 pM;simp only[aM4 E];have O: ∀q:Bool,((q==false)&&((((0:Int)<(i:Int))&&w9 l[i])==true))=true->0<i:=by
  intro q h;simp at h;omega
 rw[aM4 (λh=>by unfold qG;omega),aM4 (λh=>by have:=O _ h;omega)];rw[F] at*;rw[ij,a4q];have X:((!yQ k t n st cs ps||(decide (k=10)&& !c))||(A3 l i&&w9 (qF.mk k t n st cs ps)))= !(!(A3 l i&&w9 (qF.mk k t n st cs ps))&&(yQ k t n st cs ps&& !(decide (k=10)&& !c))):=by
  cases A3 l i<;>cases w9 (qF.mk k t n st cs ps)<;>cases yQ k t n st cs ps<;>cases decide (k=10)<;>cases c<;>rfl
 rw[X,<-Bool.and_assoc (!(A3 l i&&w9 (qF.mk k t n st cs ps))) (yQ k t n st cs ps&& !(decide (k=10)&& !c))];cases hh:(!(A3 l i&&w9 (qF.mk k t n st cs ps))&&(yQ k t n st cs ps&& !(decide (k=10)&& !c))) with
 |false=>
  rw[aOs];exact⟨_,rfl,s5 R,rfl⟩
 |true=>
  rw[aM9 (show¬(!true)=true by decide),Bool.true_and];by_cases k11:k=11
  .subst k11;by_cases h8:d<=8
   .obtain⟨m1,c1,c2⟩:=K R c;have c1':GP (s5 R) ps ((D:Int)+1) c=some (tR (d+1) c false ps,m1):=c1;rw[c1',xA h8,aM4 rfl,aM4 rfl,aM4 (λ_=>by unfold qG;omega),aM4 (λ_=>uH _),uB,Bool.true_and];dsimp only;cases hf:tR (d+1) c false ps with
    |false=>exact⟨_,rfl,m1,rfl⟩
    |true=>exact⟨_,rfl,by rw[c2 hf];rfl⟩
   rw[DG h8];exact⟨_,rfl,s5 R,rfl⟩
  have e11:decide (k=11)=false:=DG k11;rw[aM9 k11,aM9 k11,e11];by_cases j:7<=k/\k<=9
  .have e79:(decide (7<=k)&&decide (k<=9))=true:=by simp [j]
   rw[aM4 j,aM4 j,e79];by_cases h8:d<=8
   .obtain⟨m1,c1,c2⟩:=Z R;rw[c1,xA h8];rw[aM9 (show¬((false==true)&&((!true)==false))=true by decide),aM9 (show¬(false&&true)=true by decide),aM4 (show ((true==true)&&((!true)==false))=true by decide),aM4 (λ_=>by unfold qG;omega),aM4 (λ_=>uH _),uB,Bool.true_and];dsimp only;cases hz:(decide (cs.length<=20)&&(yD k (d+1) (c|| !decide (k=9)) [] cs&&decide (L6∈cs.map (·.1)))) with
    |false=>exact⟨_,rfl,m1,rfl⟩
    |true=>
     have V:yD k (d+1) (c|| !decide (k=9)) [] cs=true:=by
      revert hz;cases yD k (d+1) (c|| !decide (k=9)) [] cs<;>simp
     rw[c2 V,PS,Bool.true_and,aM9 (show¬(!true|| !true)=true by decide)]
     by_cases z:n=[]
     .rw[aM9 (show¬(!false&& !decide (n=[]))=true by simp [z]),aM4 z];exact⟨_,rfl,rfl⟩
     rw[aM4 (show (!false&& !decide (n=[]))=true by simp [z]),aM9 z];exact⟨_,rfl,rfl⟩
   rw[DG h8];exact⟨_,rfl,s5 R,rfl⟩
  have e79:(decide (7<=k)&&decide (k<=9))=false:=by rw[Bool.eq_false_iff];simpa using j
  rw[aM9 j,aM9 j,e79,PS];rw[aM9 (show¬((false==true)&&((!decide (d<=8))==false))=true by simp),aM9 (show¬(false&&true)=true by decide),aM9 (show¬((false==true)&&((!decide (d<=8))==false))=true by simp),aM9 (show¬(false&&true)=true by decide)];by_cases z:n=[]
  .rw[aM9 (show¬(!false&& !decide (n=[]))=true by simp [z]),aM4 z];exact⟨_,rfl,rfl⟩
  rw[aM4 (show (!false&& !decide (n=[]))=true by simp [z]),aM9 z];exact⟨_,rfl,rfl⟩
end
def a4v {l:List qF}{GP:il}{GC:KCT}{D d:Nat}{c:Bool}(F: ∀(i:Nat) (h:i<l.length) (R:List rU),∃w,I5 l (D:Int) c GC GP ((i:Int),s5 R)=some w/\(if (!(A3 l i&&w9 l[i])&&CE d c l[i])=true then w= .inl ((i:Int)+1,s5 (PZ R l[i])) else∃m',w= .inr (.inr (false,m')))):
  ∀(m j:Nat) (R:List rU),j+m=l.length->∃m',(sK (rC (I5 l (D:Int) c GC GP) ((j:Int),s5 R)) λO=>some ((true,O)))=some (tR d c (A3 l j) (l.drop j),m')/\(tR d c (A3 l j) (l.drop j)=true->m'=s5 (A4 R (l.drop j)))
 |0,j,R,G=>by
  have:j=l.length:=by omega
  subst this;rw[aNH,tA,a4j,a4r];refine⟨s5 R,?_,λ_=>rfl⟩;unfold I5;dsimp only;rw[aM9 (sO _)];rfl
 |m+1,j,R,G=>by
  have z:j<l.length:=by omega
  rw[aNm z,ik,tA,<-Bool.and_assoc];obtain⟨w,w1,w2⟩:=F j z R;rw[w1,aM3];cases E:(!(A3 l j&&w9 l[j])&&CE d c l[j]) with
  |false=>
   rw[E,aM9 (show¬false=true by simp)] at w2;obtain⟨m',rfl⟩:=w2;exact⟨m',rfl,λh=>by cases h⟩
  |true=>
   rw[E,aM4 rfl] at w2;subst w2;dsimp only;rw[Bool.true_and,a4s,<-yy z,show ((j:Int)+1)=((j+1:Nat):Int) by omega];exact a4v F m (j+1) _ pM
def a4w: ∀(k N:Nat) (ps:List qF),sG ps<=k->k<=99->2*k+2<=N->wL ps<=1000000000->∀D:Nat,D+k<=99->Y5 (F9 N).2 D (D+1) ps
 |k,N,ps,I,hk,Q,G,D,O=>by
  obtain⟨N,rfl⟩: ∃k,N=k+2:=⟨N-2,pM⟩;intro R c;show∃m',TJ (K9 (F9 N).1 (F9 N).2) (F9 (N+1)).2 (s5 R) ps (D:Int) c=_/\_;unfold TJ;have ih: ∀M,N<=M->∀qs:List qF,sG qs+1<=k->wL qs<=1000000000->Y5 (F9 M).2 (D+1) (D+1+1) qs:=λM U qs V K=>by
   cases k with
   |zero=>omega
   |succ k=>exact a4w k M qs pM pM pM K (D+1) pM
  have:=a4v (l:=ps) (GP:=(F9 (N+1)).2) (GC:=K9 (F9 N).1 (F9 N).2) (D:=D) (d:=D+1) (c:=c) (λi h R=>by
   have j:=AT (aNc h);have E:=yP (aNc h);cases z:ps[i] with
   |mk k' t n st cs ps'=>
    rw[z] at j;have⟨o1,o2,o3⟩:=DI (aNK j I) hk;rw[z,vN] at E;rw[<-z];exact aIa h z rfl pM (ih (N+1) pM ps' o3 pM) (λR=>aH9 (D:=D+1) (λx F=>ih N (aNt _) x.2.1 (by have:=CC F;omega) (by have:=yC F;omega)) pM R) G R) ps.length 0 R pM
  rw[aNG] at this;exact this
def aIb {ps:List qF}(z:sG ps<=98) (j:wL ps<=1000000000) (c:Bool): ∃m',XA [] ps 0 c=some (tR 1 c false ps,m')/\(tR 1 c false ps=true->m'=s5 (A4 [] ps)):=by rw[aMV];exact a4w 98 1000 ps z pM pM j 0 pM [] c
end Go.Proofs.YtedimeeleabhnaaGreatDoor
namespace Go.Proofs.YtedimeeleabhnaaGreatDoor
open Vc
mutual
def IK (R:pJ):qF->pJ
  | .mk k _ n _ cs ps=>IL (vB (if 2<=k/\k<=9 then wJ R n else R) ps) cs
termination_by p=>SizeOf.sizeOf p
def vB (R:pJ):List qF->pJ
  |[]=>R
  |p::l=>vB (IK R p) l
termination_by l=>SizeOf.sizeOf l
def IL (R:pJ):List (pI×List qF×Unit)->pJ
  |[]=>R
  |(_,ps,_)::l=>IL (vB R ps) l
termination_by l=>SizeOf.sizeOf l
end
def yz {R:List rU}{k:Int}{t n st:pI}{cs:List rM}{ps:List qF}:IK R (.mk k t n st cs ps)=IL (vB (if 2<=k/\k<=9 then wJ R n else R) ps) cs:=by rw[IK]
def UL {R:List rU}:vB R []=R:=by rw[vB]
def za {R:List rU}{p:qF}{l:List qF}:vB R (p::l)=vB (IK R p) l:=by rw[vB]
def im {R:List rU}:IL R []=R:=by rw[IL]
def aIc {R:List rU}{x:rM}{l:List rM}:IL R (x::l)=IL (vB R x.2.1) l:=by obtain⟨a,b,u⟩:=x;rw[IL]
mutual
def a4x: ∀(p:qF) (R:List rU),(IK R p).length<=R.length+wP p
  | .mk k t n st cs ps,R=>by
    rw[yz,vN];have D:=zq10 cs (vB (if 2<=k/\k<=9 then wJ R n else R) ps);have z:=io ps (if 2<=k/\k<=9 then wJ R n else R)
    have j:(if 2<=k/\k<=9 then wJ R n else R).length<=R.length+1:=by
      have:=yc R n;split<;>omega
    omega
termination_by p=>SizeOf.sizeOf p
def io: ∀(l:List qF) (R:List rU),(vB R l).length<=R.length+wL l
  |[],R=>by rw[UL];omega
  | p::l,R=>by
    rw[za,CB];have z:=io l (IK R p);have j:=a4x p R;omega
termination_by l=>SizeOf.sizeOf l
def zq10: ∀(l:List (pI×List qF×Unit)) (R:List rU),(IL R l).length<=R.length+wC l
  |[],R=>by rw[im];omega
  | (k,ps,u)::l,R=>by
    rw[aIc,KZ];have j:=zq10 l (vB R ps);have z:=io ps R;dsimp only at j|-;omega
termination_by l=>SizeOf.sizeOf l
end
section
variable {l:List qF}{G:List qF->List rU->Option (List rU)}{i:Nat}{k:Int}{t n st:pI}{cs:List rM}{ps:List qF}
def a4y (hi:i<l.length) (E:l[i]= .mk k t n st cs ps) (D: ∀x∈cs,∀R:List rU,R.length+wL x.2.1<=3000000000->G x.2.1 R=some (vB R x.2.1)):
    ∀(m j:Nat) (R:List rU),j+m=cs.length->R.length+wC (cs.drop j)<=3000000000->wC cs<=1000000000->rC (HO l (i:Int) G) (R,(j:Int))=some (IL R (cs.drop j))
  | 0,j,R,M,_,_=>by
    have:j=cs.length:=by omega
    subst this;rw[aNH,im,tA];unfold HO;dsimp only;rw[xB hi E];dsimp only;rw[aM9 (sO _)];rfl
  | m+1,j,R,M,F,I=>by
    have z:j<cs.length:=by omega
    have O:=BJ cs;rw[aNm z] at F|-;rw[KZ] at F;rw[aIc,tA]
    have K:HO l (i:Int) G (R,(j:Int))=some (.inl (vB R cs[j].2.1,(j:Int)+1)):=by
      unfold HO;dsimp only;rw[xB hi E];dsimp only;rw[v7 (t:=rT) z,aM4 (sI z),aM4 (rO z),D _ (aNc z) R pM,aM3,aM4 (s7 pM)]
    rw[K,aM3];dsimp only;have:=io cs[j].2.1 R;rw[show ((j:Int)+1)=((j+1:Nat):Int) by omega,a4y hi E D m (j+1) (vB R cs[j].2.1) pM pM I]
def aId (hi:i<l.length) (z:l[i]= .mk k t n st cs ps) (E: ∀R:List rU,R.length+wL ps<=3000000000->G ps R=some (vB R ps)) (F: ∀x∈cs,∀R:List rU,R.length+wL x.2.1<=3000000000->G x.2.1 R=some (vB R x.2.1)) (Q:wL l<=1000000000) (R:List rU) (I:R.length+wP l[i]<=3000000000):
    G0 l G (R,(i:Int))=some (.inl (IK R l[i],(i:Int)+1)):=by
  have O:=CD l;have D:=yP (aNc hi);rw[z,vN] at D I;unfold G0;dsimp only;rw[xB hi z,z,yz];dsimp only;rw[aM4 (sI hi),aM4 (rO hi),UB _ _ pM,aM4 (λ_=>uH _),uB]
  have M:(if 2<=k/\k<=9 then wJ R n else R).length<=R.length+1:=by
    have:=yc R n;split<;>omega
  have e: ∀{β:Type}(K:List rU->Option β),(rA (σ:=pJ) (
      if ((((2:Int)<=k)&&(k<=(9:Int)))&&(!decide (n∈R)))=true then
       if (([]:pJ).length+R.length)*16<=140737488355328 then
        if ((([]:pJ)++R).length+([n]:pJ).length)*16<=140737488355328 then
         some (((([]:pJ)++R)++([n]:pJ)))
        else none
       else none
      else
       some (R)
     ) K)=K (if 2<=k/\k<=9 then wJ R n else R):=by
    intro β K;unfold rA wJ;by_cases j:2<=k/\k<=9
    · rw[aM4 j]
      by_cases hm:n∈R
      .rw[aM9 (show¬((decide (2<=k)&&decide (k<=9))&& !decide (n∈R))=true by simp [hm]),aM4 hm,aM3]
      rw[aM4 (show ((decide (2<=k)&&decide (k<=9))&& !decide (n∈R))=true by simp [hm,j]),aM9 hm,aM4 aPE,aM4 (by simp only[aM8,aM7,aM5];omega),aM3,List.nil_append]
    rw[aM9 j,aM9 (show¬((decide (2<=k)&&decide (k<=9))&& !decide (n∈R))=true by simp;omega),aM3]
  rw[e];generalize (if 2<=k/\k<=9 then wJ R n else R)=R2 at M|-;have U:=io ps R2;have:=a4y hi z F cs.length 0 (vB R2 ps) pM (by rw[aNG];omega) pM;rw[aNG] at this;rw[E R2 pM,aM3,show rC (HO l (i:Int) G) (vB R2 ps,(0:Int))=_ from this];unfold rA;rw[aM3,aM4 (s7 pM)]
end
def a4z {l:List qF}{G:List qF->List rU->Option (List rU)}(E: ∀(i:Nat) (h:i<l.length) (R:List rU),R.length+wP l[i]<=3000000000->G0 l G (R,(i:Int))=some (.inl (IK R l[i],(i:Int)+1))):
    ∀(m j:Nat) (R:List rU),j+m=l.length->R.length+wL (l.drop j)<=3000000000->rC (G0 l G) (R,(j:Int))=some (vB R (l.drop j))
  | 0,j,R,F,_=>by
    have:j=l.length:=by omega
    subst this;rw[aNH,UL,tA];unfold G0;dsimp only;rw[aM9 (sO _)];rfl
  | m+1,j,R,F,D=>by
    have z:j<l.length:=by omega
    rw[aNm z] at D|-;rw[CB] at D;have:=a4x l[j] R;rw[za,tA,E j z R pM,aM3];dsimp only;rw[show ((j:Int)+1)=((j+1:Nat):Int) by omega,a4z E m (j+1) _ pM pM]
def a4A: ∀(k N:Nat) (ps:List qF),sG ps<=k->k<=99->k+1<=N->wL ps<=1000000000->∀R:List rU,R.length+wL ps<=3000000000->NI N ps R=some (vB R ps)
  | k,N,ps,K,hk,O,I,R,j=>by
    obtain⟨N,rfl⟩: ∃k,N=k+1:=⟨N-1,pM⟩;show S6 (NI N) ps R=_;unfold S6
    have:=a4z (l:=ps) (G:=NI N) (λi h R j=>by
      have z:=AT (aNc h);have E:=yP (aNc h);cases D:ps[i] with
      | mk k' t n st cs ps'=>
        rw[D] at z;have⟨o1,o2,o3⟩:=DI (aNK z K) hk;rw[D,vN] at E
        have ih: ∀qs:List qF,sG qs+1<=k->wL qs<=1000000000->∀R:List rU,R.length+wL qs<=3000000000->NI N qs R=some (vB R qs):=λqs Q M R j=>by
          cases k with
          |zero=>omega
          |succ k=>exact a4A k N qs pM pM pM M R j
        rw[<-D];exact aId h D (ih ps' o3 pM) (λx F=>ih x.2.1 (by have:=CC F;omega) (by have:=yC F;omega)) I R j) ps.length 0 R pM (by rw[aNG];exact j)
    rw[aNG] at this;unfold rA;rw[show rC (G0 ps (NI N)) (R,(0:Int))=_ from this];rfl
def a4B {ps:List qF}(z:sG ps<=99) (j:wL ps<=1000000000):G1 ps []=some (vB [] ps):=by rw[aIu];exact a4A 99 1000 ps z pM pM j [] aPE
mutual
def UM:qF->pJ
  | .mk k _ n _ cs ps=>if k=11 then FH ps else(if n=[] then[] else[n])++(if 7<=k/\k<=9 then ip cs else[])
termination_by p=>SizeOf.sizeOf p
def FH:List qF->pJ
  |[]=>[]
  |p::l=>UM p++FH l
termination_by l=>SizeOf.sizeOf l
def ip:List (pI×List qF×Unit)->pJ
  |[]=>[]
  |(_,ps,_)::l=>FH ps++ip l
termination_by l=>SizeOf.sizeOf l
end
def a4C {k:Int}{t n st:pI}{cs:List rM}{ps:List qF}:UM (.mk k t n st cs ps)=if k=11 then FH ps else(if n=[] then[] else[n])++(if 7<=k/\k<=9 then ip cs else[]):=by rw[UM]
def a4D:FH []=[]:=by rw[FH]
def a4E {p:qF}{l:List qF}:FH (p::l)=UM p++FH l:=by rw[FH]
def xL (R A R2:List rU):Prop:=R.Nodup->R2.Nodup/\∀x,x∈R2↔x∈R\/x∈A
def xL.refl (R:List rU):xL R [] R:=λh=>⟨h,λx=>by simp⟩
def xL.trans {R A R2 B R3:List rU}(z:xL R A R2) (j:xL R2 B R3):xL R (A++B) R3:=λh=>by
  obtain⟨a1,a2⟩:=z h;obtain⟨b1,b2⟩:=j a1;exact⟨b1,λx=>by rw[b2,a2,aNU,or_assoc]⟩
def xL.add (R:List rU) (n:rU):xL R [n] (wJ R n):=λh=>by
  unfold wJ;split
  · rename_i hm
    exact⟨h,λx=>⟨.inl,λh=>h.elim id λh=>by rw[aNn] at h;rw[h];exact hm⟩⟩
  rename_i hm
  exact⟨List.nodup_append.2 ⟨h,by simp,λa j b hb=>by rw[aNn] at hb;rintro rfl;rw[hb] at j;exact hm j⟩,λx=>by simp⟩
def xL.swap {R A B R2:List rU}(h:xL R (A++B) R2):xL R (B++A) R2:=λj=>by
  obtain⟨a1,a2⟩:=h j;exact⟨a1,λx=>by rw[a2];simp only[aNU,or_comm]⟩
def zq11 {x:rM}{l:List rM}:ip (x::l)=FH x.2.1++ip l:=by obtain⟨a,b,u⟩:=x;rw[ip]
def zq12:ip []=[]:=by rw[ip]
mutual
def aIe: ∀(p:qF) (R:List rU),xL R (UM p) (PZ R p)
  | .mk k t n st cs ps,R=>by
    rw[a4C,a4q];split
    .exact zb ps R
    have h:xL R (if 7<=k/\k<=9 then ip cs else[]) (if 7<=k/\k<=9 then CF R cs else R):=by
      split
      .exact zq13 cs R
      exact xL.refl R
    split
    .rw[List.nil_append];exact h
    exact(h.trans (xL.add _ n)).swap
termination_by p=>SizeOf.sizeOf p
def zb: ∀(l:List qF) (R:List rU),xL R (FH l) (A4 R l)
  |[],R=>by rw[a4D,a4r];exact xL.refl R
  |p::l,R=>by rw[a4E,a4s];exact(aIe p R).trans (zb l _)
termination_by l=>SizeOf.sizeOf l
def zq13: ∀(l:List (pI×List qF×Unit)) (R:List rU),xL R (ip l) (CF R l)
  |[],R=>by rw[zq12,aH7];exact xL.refl R
  |(k,ps,u)::l,R=>by rw[zq11,aH8];exact(zb ps R).trans (zq13 l _)
termination_by l=>SizeOf.sizeOf l
end
def aIf {n:pI}(h:uO n=true):n≠[]:=λe=>by rw[e] at h;cases h
def a4F {k:Int}{t n st:pI}{cs:List rM}{ps:List qF}(h:yQ k t n st cs ps=true):
    ((k=1\/k=10)/\n=[]/\cs=[]/\ps=[])\/(k=11/\n≠[]/\cs=[])\/(2<=k/\k<=6/\n≠[]/\cs=[]/\ps=[])\/(7<=k/\k<=9/\n≠[]/\ps=[]):=by
  unfold yQ at h;split at h
  · rename_i hk
    simp at h;exact .inl ⟨.inl hk,h.1.1.1.2,h.1.2,h.2⟩
  split at h
  · rename_i hk
    simp at h;exact .inl ⟨.inr hk,h.1.1.1.2,h.1.2,h.2⟩
  split at h
  · rename_i hk
    simp only[aNf,aOt,aNj,List.isEmpty_iff] at h;have z:=aIf h.1.1.1.2;by_cases k11:k=11
    .exact .inr (.inl ⟨k11,z,h.1.2.resolve_right pM⟩)
    have j:=h.2.resolve_right k11
    by_cases k7:7<=k
    .exact .inr (.inr (.inr ⟨k7,pM,z,j⟩))
    exact .inr (.inr (.inl ⟨pM,pM,z,h.1.2.resolve_right pM,j⟩))
  cases h
mutual
def aIg: ∀(p:qF) (d:Nat) (c:Bool) (R:List rU),CE d c p=true->xL R (UM p) (IK R p)
  | .mk k t n st cs ps,d,c,R,h=>by
    rw[ij] at h;simp only[aNf] at h;obtain⟨⟨D,_⟩,j⟩:=h;rw[a4C,yz];rcases a4F D with⟨hk,rfl,rfl,rfl⟩ |⟨rfl,z,rfl⟩ |⟨k2,k6,z,rfl,rfl⟩ |⟨k7,k9,z,rfl⟩
    · rw[aM9 pM,aM4 rfl,aM9 pM,aM9 pM,UL,im]
      exact xL.refl R
    · rw[aM4 rfl] at j
      simp only[aNf] at j;rw[aM4 rfl,aM9 pM,im];exact zc ps (d+1) c false R j.2
    · rw[aM9 pM,aM9 z,aM9 pM,aM4 pM,UL,im,List.append_nil]
      exact xL.add R n
    rw[aM9 pM,aM4 ⟨k7,k9⟩] at j
    simp only[aNf] at j;rw[aM9 pM,aM9 z,aM4 ⟨k7,k9⟩,aM4 pM,UL];exact(xL.add R n).trans (zq14 cs k (d+1) _ [] _ j.2.2.1)
termination_by p=>SizeOf.sizeOf p
def zc: ∀(l:List qF) (d:Nat) (c b:Bool) (R:List rU),tR d c b l=true->xL R (FH l) (vB R l)
  |[],_,_,_,R,_=>by rw[a4D,UL];exact xL.refl R
  | p::l,d,c,b,R,h=>by
    rw[ik] at h;simp only[aNf] at h;rw[a4E,za];exact(aIg p d c R h.2.1).trans (zc l d c _ _ h.2.2)
termination_by l=>SizeOf.sizeOf l
def zq14: ∀(l:List (pI×List qF×Unit)) (k:Int) (d:Nat) (c:Bool) (keys R:List rU),yD k d c keys l=true->xL R (ip l) (IL R l)
  |[],_,_,_,_,R,_=>by rw[zq12,im];exact xL.refl R
  | (key,ps,u)::l,k,d,c,keys,R,h=>by
    rw[yx] at h;simp only[aNf] at h;rw[zq11,aIc];exact(zc ps d c false R h.2.1).trans (zq14 l k d c _ _ h.2.2)
termination_by l=>SizeOf.sizeOf l
end
def aIh {ps:List qF}{d:Nat}{c b:Bool}(h:tR d c b ps=true):(A4 [] ps).length=(vB [] ps).length:=by
  obtain⟨a1,a2⟩:=zb ps [] pO;obtain⟨b1,b2⟩:=zc ps d c b [] h pO;exact((List.perm_ext_iff_of_nodup a1 b1).2 λx=>by rw[a2,b2]).length_eq
def yE (c:Bool) (ps:List qF):Bool:=(tR 1 c false ps&&decide ((vB [] ps).length<=20))&&decide ((u7 ps).length<=4000)
def a4G {ps:List qF}(D:sG ps<=98) (j:wL ps<=1000000000) (c:Bool):P7 ps c=some (yE c ps):=by
  obtain⟨m',G,F⟩:=aIb D j c;unfold P7 yE;rw[G,aM3,a4e pM j,aM4 (λ_=>uH _),uB];dsimp only;cases hf:tR 1 c false ps with
  |false=>rfl
  | true=>
    have E:=F hf;have z:(A4 [] ps).length=(vB [] ps).length:=aIh hf;rw[E,a3y,z,show decide (((vB [] ps).length:Int)<=20)=decide ((vB [] ps).length<=20) by rw[aNv];simp;omega,show decide (((u7 ps).length:Int)<=4000)=decide ((u7 ps).length<=4000) by rw[aNv];simp;omega]
def zd {ps:List qF}(z:sG ps<=98) (j:wL ps<=1000000000):KE ps=some (yE false ps):=by
  unfold KE;rw[a4G z j];rfl
def aIi {ps:List qF}(z:sG ps<=98) (j:wL ps<=1000000000):TQ ps=some (yE true ps):=by
  unfold TQ;rw[a4G z j];rfl
def ze {ps:List qF}(z:sG ps<=98) (j:wL ps<=1000000000):K6 ps=some (yE false ps):=by
  unfold K6 yE;rw[a4p pM j,aM3,a4B pM j,aM4 (λ_=>uH _),uB,Y3 pM j,aM4 (λ_=>uH _),uB,show decide (((vB [] ps).length:Int)<=20)=decide ((vB [] ps).length<=20) by rw[aNv];simp;omega,show decide (((u7 ps).length:Int)<=4000)=decide ((u7 ps).length<=4000) by rw[aNv];simp;omega]
def aIj {ps:List qF}(z:sG ps<=98) (j:wL ps<=1000000000):TF ps=some (yE true ps):=by
  unfold TF yE;rw[a4p pM j,aM3,a4B pM j,aM4 (λ_=>uH _),uB,Y3 pM j,aM4 (λ_=>uH _),uB,show decide (((vB [] ps).length:Int)<=20)=decide ((vB [] ps).length<=20) by rw[aNv];simp;omega,show decide (((u7 ps).length:Int)<=4000)=decide ((u7 ps).length<=4000) by rw[aNv];simp;omega]
def yF (c:Bool) (ps:List qF):pI×Int:=if yE c ps=true then(u7 ps,0) else([],1)
def a4H {ps:List qF}(z:sG ps<=98) (j:wL ps<=1000000000):PA ps=some (yF false ps):=by
 unfold PA yF;rw[zd z j,a4g z j,aM3];cases yE false ps<;>rfl
def aIk {ps:List qF}(z:sG ps<=98) (j:wL ps<=1000000000):TU ps=some (yF true ps):=by
 unfold TU yF;rw[aIi z j,a4g z j,aM3];cases yE true ps<;>rfl
def a4I {ps:List qF}(z:sG ps<=98) (j:wL ps<=1000000000):P2 ps=some (yF false ps):=by
 unfold P2 yF;rw[ze z j,Y3 pM j,aM3];cases yE false ps<;>rfl
def aIl {ps:List qF}(z:sG ps<=98) (j:wL ps<=1000000000):TM ps=some (yF true ps):=by
 unfold TM yF;rw[aIj z j,Y3 pM j,aM3];cases yE true ps<;>rfl
def a4J (s:pI): ∃b,KI s=some b/\KG s=some b/\(b=true->∃ps x1 x2 x3 y1 y2 y3,KF s=some (ps,x1,x2,x3,0)/\KB s=some (ps,y1,y2,y3,0)/\sG ps<=9/\wL ps<=20000000/\yE false ps=true/\u7 ps=s):=by
 obtain⟨p,q,hp,D,h⟩:=aH2 s;have hP:KF s=some (p.1,p.2.1,p.2.2.1,p.2.2.2.1,p.2.2.2.2):=by unfold KF;rw[hp];rfl
 have E:KB s=some (q.1,q.2.1,q.2.2.1,q.2.2.2.1,q.2.2.2.2):=by unfold KB;rw[D];rfl
 unfold KI KG XD XC;rw[hP,E,aM3,aM3];dsimp only;rcases h with⟨z,j,I,G,F⟩ |⟨z,j⟩
 .rw[z,j,aM9 (show¬(!decide ((0:Int)=0))=true by decide),aM9 (show¬(!decide ((0:Int)=0))=true by decide),<-I,a4H pM pM,a4I pM pM];refine⟨_,rfl,rfl,λhb=>⟨p.1,p.2.1,p.2.2.1,p.2.2.2.1,q.2.1,q.2.2.1,q.2.2.2.1,rfl,rfl,G,F,?_⟩⟩;unfold yF at hb;cases hv:yE false p.1 with
  |false=>rw[hv] at hb;simp at hb
  |true=>rw[hv] at hb;simp at hb;exact⟨rfl,hb⟩
 rw[aM4 (show (!decide (p.2.2.2.2=0))=true by simpa using z),aM4 (show (!decide (q.2.2.2.2=0))=true by simpa using j),aM3,aM3];dsimp only;exact⟨false,by simp [z],by simp [j],λh=>by cases h⟩
mutual
def xM:qF->Bool
 | .mk k _ _ _ cs ps=>(!(decide (7<=k)&&decide (k<=9))&&A5 ps)&&IM cs
termination_by p=>SizeOf.sizeOf p
def A5:List qF->Bool
 |[]=>true
 |p::l=>xM p&&A5 l
termination_by l=>SizeOf.sizeOf l
def IM:List (pI×List qF×Unit)->Bool
 |[]=>true
 |(_,ps,_)::l=>A5 ps&&IM l
termination_by l=>SizeOf.sizeOf l
end
def zf {k:Int}{t n st:pI}{cs:List rM}{ps:List qF}:xM (.mk k t n st cs ps)=((!(decide (7<=k)&&decide (k<=9))&&A5 ps)&&IM cs):=by rw[xM]
def UN: ∀l:List qF,A5 l=l.all xM
 |[]=>by rw[A5];rfl
 |p::l=>by rw[A5,UN l];rfl
def Y6: ∀l:List rM,IM l=l.all λc=>A5 c.2.1
 |[]=>by rw[IM];rfl
 |(a,b,u)::l=>by rw[IM,Y6 l];rfl
noncomputable abbrev vg (N:Nat):=G2 N
def a4K {α:Type}{l:List α}{f:Int->Option (Int⊕(Unit⊕Int))}(p:α->Bool) (hf: ∀(i:Nat) (h:i<l.length),f i=if p l[i]=true then some (.inr (.inr (i:Int))) else some (.inl ((i:Int)+1))) (j:f l.length=some (.inr (.inl ()))):
  ((sK (rC f 0) λ_=>some (-1:Int)).bind λr=>some (decide ((0:Int)<=r)))=some (l.any p):=by
 rw[yZ (l:=l) p (λk=>(k:Int)) hf j];rw[show sK (some (BC (λk=>Sum.inr (k:Int)) (Sum.inl ()) (l.findIdx? p))) (λ_:Unit=>some (-1:Int))=some (BC (λk=>(k:Int)) (-1) (l.findIdx? p)) from wm,aM3,a2z]
def a4L: ∀(k N:Nat) (ps:List qF),sG ps<=k->k<=99->8*k+8<=N->wL ps<=1000000000->(vg N).2.2.2.1 ps=some (A5 ps)/\∀p∈ps,(vg N).2.2.2.2.2.2.2 (qF.un p)=some (xM p)
 |k,N,ps,E,hk,O,K=>by
  have G:=CD ps;have solid: ∀M,N<=M+4->∀p∈ps,(vg M).2.2.2.2.2.2.2 (qF.un p)=some (xM p):=λM Q p hp=>by
   have D:=AT hp;have z:=yP hp;obtain⟨k',t,n,st,cs,ps'⟩:=p;have⟨o1,o2,o3⟩:=DI (aNK D E) hk;rw[vN] at z;have I:=BJ cs;obtain⟨M,rfl⟩: ∃k,M=k+4:=⟨M-4,pM⟩;have ih: ∀M2,M<=M2->∀qs:List qF,sG qs+1<=k->wL qs<=1000000000->(vg M2).2.2.2.1 qs=some (A5 qs):=λM2 R qs U F=>by
    cases k with
    |zero=>omega
    |succ k=>exact(a4L k M2 qs pM pM pM F).1
   have j:(vg (M+3)).2.2.2.2.2.2.1 cs=some (!IM cs):=by
    show ((sK (rC (NK cs (λc=>((vg M).2.2.2.1 c.2.1).bind λr=>some (!r))) (0:Int)) λ_=>some (-1:Int)).bind λr=>some (decide ((0:Int)<=r)))=_;rw[a4K (l:=cs) (λc=> !A5 c.2.1) (λi h=>by
     unfold NK;dsimp only;rw[aM4 (sI h),aM4 (rO h),v7 (t:=rT) h,ih M (aNt _) _ (by have:=CC (aNc h);omega) (by have:=yC (aNc h);omega),aM3,aM3,aM4 (s7 pM)]) (by
     unfold NK;rw[aM9 (sO _)]),Y6,GF]
   show S8 (vg (M+3)).1 (vg (M+3)).2.1 (vg (M+3)).2.2.1 (vg (M+3)).2.2.2.1 (vg (M+3)).2.2.2.2.1 (vg (M+3)).2.2.2.2.2.1 (vg (M+3)).2.2.2.2.2.2.1 (vg (M+3)).2.2.2.2.2.2.2 (k',(t,(n,(st,(cs,(ps',()))))))=_;unfold S8;dsimp only;rw[ih (M+3) pM ps' o3 pM,aM4 (λ_=>uH _),uB,j,aM4 (λ_=>uH _),uB,zf,Bool.not_not]
  refine⟨?_,solid N pM⟩;obtain⟨N,rfl⟩: ∃k,N=k+4:=⟨N-4,pM⟩;show ((((sK (rC (NJ ps (λx=>((vg N).2.2.2.2.2.2.2 x).bind λr=>some (!r))) (0:Int)) λ_=>some (-1:Int)).bind λr=>some (decide ((0:Int)<=r)))).bind λr=>some (!r))=_;rw[a4K (l:=ps) (λp=> !xM p) (λi h=>by
   unfold NJ;dsimp only;rw[aM4 (sI h),aM4 (rO h),Y4 h,solid N pM _ (aNc h),aM3,aM3,aM4 (s7 pM)]) (by
   unfold NJ;rw[aM9 (sO _)]),UN,GF,aM3,Bool.not_not]
def a4M {ps:List qF}(z:sG ps<=98) (j:wL ps<=1000000000) {p:qF}(hp:p∈ps):NL (qF.un p)=some (xM p):=by rw[aJj];exact(a4L 98 1000 ps z pM pM j).2 p hp
def aIm {l:List qF}{G:List qF->Option Bool}{i:Nat}{k:Int}{t n st:pI}{cs:List rM}{ps:List qF}(hi:i<l.length) (D:l[i]= .mk k t n st cs ps) (z: ∀x∈cs,G x.2.1=some (A5 x.2.1)) (F:wC cs<=1000000000):
  rC (JT l (i:Int) G) 0=some (if IM cs=true then .inl () else .inr (.inr (.inr false))):=by
 have E:=BJ cs;have h:=yZ (f:=JT l (i:Int) G) (l:=cs) (λc=> !A5 c.2.1) (λ_=>(.inr (.inr false):Int⊕(Unit⊕Bool))) (λj h=>by
  unfold JT;rw[xB hi D];dsimp only;rw[aM4 (rO hi),v7 (t:=rT) h,aM4 (sI h),aM4 (rO hi),aM4 (rO h),z _ (aNc h),aM3,aM4 (s7 pM)]) (by
  unfold JT;rw[xB hi D];dsimp only;rw[aM4 (rO hi),aM9 (sO _)])
 rw[h,BD,GF,Y6];cases cs.all (λc=>A5 c.2.1)<;>rfl
def a4N: ∀(k N:Nat) (ps:List qF),sG ps<=k->k<=99->k+1<=N->wL ps<=1000000000->NN N ps=some (A5 ps)
 |k,N,ps,F,hk,M,K=>by
  obtain⟨N,rfl⟩: ∃k,N=k+1:=⟨N-1,pM⟩;show S9 (NN N) ps=_;unfold S9;have I:=CD ps;have h:=yZ (f:=NM ps (NN N)) (l:=ps) (λp=> !xM p) (λ_=>false) (λi h=>by
   have j:=AT (aNc h);have D:=yP (aNc h);cases z:ps[i] with
   |mk k' t n st cs ps'=>
    rw[z] at j;have⟨o1,o2,o3⟩:=DI (aNK j F) hk;rw[z,vN] at D;have ih: ∀qs:List qF,sG qs+1<=k->wL qs<=1000000000->NN N qs=some (A5 qs):=λqs O G=>by
     cases k with
     |zero=>omega
     |succ k=>exact a4N k N qs pM pM pM G
    have e7:(((k'=(7:Int))||(k'=(8:Int)))||(k'=(9:Int)))=(decide (7<=k')&&decide (k'<=9)):=by rw[aNv];simp;omega
    unfold NM;rw[xB h z];dsimp only;rw[e7,aM4 (sI h),aM4 (rO h),aM4 (λ_=>rO h),ih ps' o3 pM,aM4 (λ_=>uH _),uB,aIm h z (λx E=>ih x.2.1 (by have:=CC E;omega) (by have:=yC E;omega)) pM,aM4 (s7 pM),zf];cases(decide (7<=k')&&decide (k'<=9))<;>cases A5 ps'<;>cases IM cs<;>rfl) (by
   unfold NM;rw[aM9 (sO _)])
  rw[h,wv,GF,UN,Bool.not_not,Bool.and_true]
def a4O {ps:List qF}(E:sG ps<=98) (D:wL ps<=1000000000) {i:Nat}(h:i<ps.length):NO (s8 ps (i:Int) ((i:Int)+1))=some (xM ps[i]):=by
 have e:s8 ps (i:Int) ((i:Int)+1)=[ps[i]]:=by
  unfold s8;rw[aNL,aNm h,show ((i:Int)+1).toNat-i=1 by omega];rfl
 have z:=AT (aNc h);have j:=yP (aNc h);rw[e,show NO [ps[i]]=NN 1000 [ps[i]] from by rw[aJl],a4N 99 1000 _ (by rw[IE,FF];omega) pM pM (by rw[CB,BI];omega),UN];simp
mutual
def UO:qF->qF
 | .mk k _ n _ cs ps=> .mk k [] n [] (EO cs) (vY ps)
termination_by p=>SizeOf.sizeOf p
def vY:List qF->List qF
 |[]=>[]
 |p::l=>(if xM p=true then[] else[UO p])++vY l
termination_by l=>SizeOf.sizeOf l
def EO:List (pI×List qF×Unit)->List (pI×List qF×Unit)
 |[]=>[]
 |(k,ps,_)::l=>[(k,vY ps,())]++EO l
termination_by l=>SizeOf.sizeOf l
end
def FI (p:qF):List qF:=if xM p=true then[] else[UO p]
def Y7 (c:rM):rM:=(c.1,vY c.2.1,())
def zg {k:Int}{t n st:pI}{cs:List rM}{ps:List qF}:UO (.mk k t n st cs ps)= .mk k [] n [] (EO cs) (vY ps):=by rw[UO]
def zh:vY []=[]:=by rw[vY]
def a4P {p:qF}{l:List qF}:vY (p::l)=FI p++vY l:=by rw[vY];rfl
def zi:EO []=[]:=by rw[EO]
def aIn {x:rM}{l:List rM}:EO (x::l)=[Y7 x]++EO l:=by obtain⟨a,b,u⟩:=x;rw[EO];rfl
def zj: ∀l:List qF,vY l=l.flatMap FI
 |[]=>zh
 |p::l=>by rw[a4P,aNX,zj l]
def zk: ∀l:List rM,EO l=l.map Y7
 |[]=>zi
 |c::l=>by rw[aIn,aN8,zk l];rfl
def aIo {k:Int}{st:pI}{cs:List rM}(h:zH k st cs=true):zH k [] (EO cs)=true:=by
 rcases a4a h with rfl|rfl|rfl|⟨rfl,rfl,rfl⟩ |h
 .rfl
 .rfl
 .rfl
 .rw[zi];rfl
 exact gx h
mutual
def aIp: ∀p:qF,EL (UO p)<=EL p/\wP (UO p)<=wP p
 | .mk k t n st cs ps=>by
  obtain⟨E,D⟩:=zl ps;obtain⟨z,j⟩:=zq15 cs;rw[zg,XV,XV,vN,vN];simp only[aM8];refine⟨?_,pM⟩;cases hk:zH k st cs with
  |true=>rw[aIo hk,aM4 rfl];omega
  |false=>
   rw[aM9 (show¬false=true by simp)];split<;>omega
termination_by p=>SizeOf.sizeOf p
def zl: ∀l:List qF,sG (vY l)<=sG l/\wL (vY l)<=wL l
 |[]=>by rw[zh];omega
 |p::l=>by
  obtain⟨E,D⟩:=aIp p;obtain⟨z,j⟩:=zl l;rw[a4P,IE,CB];unfold FI;split
  .rw[List.nil_append];omega
  rw[List.singleton_append,IE,CB];omega
termination_by l=>SizeOf.sizeOf l
def zq15: ∀l:List (pI×List qF×Unit),zI (EO l)<=zI l/\wC (EO l)<=wC l
 |[]=>by rw[zi];omega
 |(k,ps,u)::l=>by
  obtain⟨E,D⟩:=zl ps;obtain⟨z,j⟩:=zq15 l;rw[aIn,@_root_.List.singleton_append,gq,gq,KZ,KZ];unfold Y7;dsimp only;omega
termination_by l=>SizeOf.sizeOf l
end
def IN {α β:Type}(f:α->β) (l:List α):(l.flatMap λc=>[f c])=l.map f:=by
 induction l with
 |nil=>rfl
 |cons c l ih=>rw[aNX,aN8,ih];rfl
def aIq {l:List qF}{G:List qF->Option Ja0}{i:Nat}{k:Int}{t n st:pI}{cs:List rM}{ps:List qF}(hi:i<l.length) (D:l[i]= .mk k t n st cs ps) (z: ∀x∈cs,G x.2.1=some (vY x.2.1)) (I:wC cs<=1000000000):
  rC (JU l (i:Int) G) ((0:Int),([]:List rM))=some (EO cs):=by
 have F:=BJ cs;have h:=yB (f:=JU l (i:Int) G) (l:=cs) (λj b=>(j,b)) (λb=>b) (λc=>[Y7 c]) (M:=10000000000) (λj h b E=>by
  unfold JU;dsimp only;rw[xB hi D];dsimp only;rw[v7 (t:=rT) h,aM4 (sI h),aM4 (rO h),aM4 (rO h),z _ (aNc h),aM3,aM4 aPz,aM4 (s7 pM)];rfl) (λb=>by
  unfold JU;dsimp only;rw[xB hi D];dsimp only;rw[aM9 (sO _)]) [] (by
   have:=BF (l:=cs) (h:=λc=>[Y7 c]) (B:=1) (λ_ _=>by simp);simp only[aM8];omega)
 rw[h,zk,List.nil_append,IN]
def a4Q: ∀(k N:Nat) (ps:List qF),sG ps<=k->k<=98->k+1<=N->wL ps<=1000000000->NQ N ps=some (vY ps)
 |k,N,ps,Q,hk,X,O=>by
  obtain⟨N,rfl⟩: ∃k,N=k+1:=⟨N-1,pM⟩;show SA (NQ N) ps=_;unfold SA;have V:=CD ps;have R: ∀p:qF,(FI p).length<=1:=λp=>by unfold FI;split<;>simp
  rw[zj];have:=yB (f:=NP ps (NQ N)) (l:=ps) (λj b=>(b,j)) (λb=>b) FI (M:=10000000000) (λi h b E=>by
   have z:=AT (aNc h);have F:=yP (aNc h);have I:=a4O (ps:=ps) pM O h;unfold NP;dsimp only;rw[aM4 (sI h),aM4 (rO h),aM4 (s7 pM),aM4 ⟨pM,pM,pM⟩,I,aM3];unfold FI at E|-;cases D:ps[i] with
   |mk k' t n st cs ps'=>
    rw[D] at z E;have⟨o1,o2,o3⟩:=DI (aNK z Q) pM;rw[D,vN] at F;have ih: ∀qs:List qF,sG qs+1<=k->wL qs<=1000000000->NQ N qs=some (vY qs):=λqs Y U=>by
     cases k with
     |zero=>omega
     |succ k=>exact a4Q k N qs pM pM pM U
    cases G:xM (qF.mk k' t n st cs ps') with
    |true=>rw[aM4 rfl,aM4 (s7 pM),aM4 rfl,List.append_nil]
    |false=>
     rw[G,aM9 (show¬false=true by simp)] at E;rw[aM9 (show¬false=true by simp),aM9 (show¬false=true by simp),xB h D];dsimp only;rw[ih ps' o3 pM,aM3,aIq h D (λx K=>ih x.2.1 (by have:=CC K;omega) (by have:=yC K;omega)) pM];unfold rA;rw[aM3,aM4 aPz,aM4 (s7 pM),zg];rfl) (λb=>by
   unfold NP;dsimp only;rw[aM9 (sO _)]) [] (by have:=BF (l:=ps) (λp _=>R p);simp only[aM8];omega)
  rw[this];rfl
def aIr {ps:List qF}(z:sG ps<=98) (j:wL ps<=1000000000) (hv:yE false ps=true):TK ps=some (vY ps,0):=by
 unfold TK;rw[ze z j,hv,aM3,aM9 (show¬(!true)=true by decide),show WT ps=NQ 1000 ps from by rw[aMK],a4Q 98 1000 ps z pM pM j];rfl
def a4R {ρ α:Type}{f:Int×List α×Nat->Option ((Int×List α×Nat)⊕ρ)}{l0:List α}{n:Nat}(out:List α×Nat->ρ) (g:α->α) (hf: ∀(i:Nat) (h:i<l0.length) (l:List α),l.length=l0.length->l[i]? =some l0[i]->f ((i:Int),l,n)=some (.inl ((i:Int)+1,l.set i (g l0[i]),n))) (D: ∀l,f ((l0.length:Int),l,n)=some (.inr (out (l,n)))):
  ∀(m j:Nat),j+m=l0.length->rC f ((j:Int),(l0.take j).map g++l0.drop j,n)=some (out (l0.map g,n))
 |0,j,E=>by
  have:j=l0.length:=by omega
  subst this;rw[xP (D _),aNH,List.take_length,List.append_nil]
 |m+1,j,E=>by
  have z:j<l0.length:=by omega
  rw[AB (hf j z _ pP (by
   rw[aNg pP];simp [Nat.min_eq_left (Nat.le_of_lt z)])),show ((j:Int)+1)=((j+1:Nat):Int) by omega]
  have e:((l0.take j).map g++l0.drop j).set j (g l0[j])=(l0.take (j+1)).map g++l0.drop (j+1):=by
   rw[List.set_append_right _ _ pP,aNm z];simp only[aN9,aNR,Nat.min_eq_left (Nat.le_of_lt z),aOJ,List.set_cons_zero];rw[List.take_succ_eq_append_getElem z,List.map_append,aNd];rfl
  rw[e];exact a4R out g hf D m (j+1) pM
def a4S {ρ α:Type}{f:Int×List α×Nat->Option ((Int×List α×Nat)⊕ρ)}{l0:List α}{n:Nat}(out:List α×Nat->ρ) (g:α->α) (hf: ∀(i:Nat) (h:i<l0.length) (l:List α),l.length=l0.length->l[i]? =some l0[i]->f ((i:Int),l,n)=some (.inl ((i:Int)+1,l.set i (g l0[i]),n))) (j: ∀l,f ((l0.length:Int),l,n)=some (.inr (out (l,n)))):rC f ((0:Int),l0,n)=some (out (l0.map g,n)):=by
 have:=a4R out g hf j l0.length 0 pM;simpa using this
def a4T {t:Ty}{l:List t.den}{i:Nat}{x:t.den}(h:l[i]? =some x):qH t l (i:Int)=x:=by
 unfold qH;rw[aNL,aNy,h];rfl
def a4U {k:Int}{t n st:pI}{cs:List rM}{ps:List qF}(h:yQ k t n st cs ps=true) (hk:k=11\/(7<=k/\k<=9)):t=[]/\st=[]:=by
 unfold yQ at h;rw[aM9 pM,aM9 pM,aM4 pM] at h;simp only[aNf,aNj] at h;have j:=h.1.1.1.1;unfold UK at j;rw[aM9 pM,aM9 pM,aM9 pM] at j;exact⟨h.1.1.2,by simpa using j⟩
def zm {d:Nat}{c:Bool}{k:Int}{t n st:pI}{cs:List rM}{ps:List qF}(h:CE d c (.mk k t n st cs ps)=true) (hp:xM (.mk k t n st cs ps)=false):
  t=[]/\st=[]/\((k=11/\cs=[]/\tR (d+1) c false ps=true)\/((7<=k/\k<=9)/\ps=[]/\yD k (d+1) (c|| !decide (k=9)) [] cs=true)):=by
 rw[ij] at h;simp only[aNf] at h;obtain⟨⟨z,_⟩,j⟩:=h;rw[zf] at hp;rcases a4F z with⟨hk,rfl,rfl,rfl⟩ |⟨rfl,D,rfl⟩ |⟨k2,k6,D,rfl,rfl⟩ |⟨k7,k9,D,rfl⟩
 .rw[UN,Y6] at hp;simp at hp;omega
 .rw[aM4 rfl] at j;simp only[aNf] at j;obtain⟨a,b⟩:=a4U z (.inl rfl);exact⟨a,b,.inl ⟨rfl,rfl,j.2⟩⟩
 .rw[UN,Y6] at hp;simp at hp;omega
 rw[aM9 pM,aM4 ⟨k7,k9⟩] at j;simp only[aNf] at j;obtain⟨a,b⟩:=a4U z (.inr ⟨k7,k9⟩);exact⟨a,b,.inr ⟨⟨k7,k9⟩,rfl,j.2.2.1⟩⟩
def iq {k:Int}{d:Nat}{c:Bool}{x:rM}: ∀{l:List rM}{keys:List rU},yD k d c keys l=true->x∈l->tR d c false x.2.1=true
 |y::l,keys,h,j=>by
  rw[yx] at h;simp only[aNf] at h;rcases aNk.1 j with rfl|j
  .exact h.2.1
  exact iq h.2.2 j
def ir {d:Nat}{c:Bool}{p:qF}: ∀{l:List qF}{b:Bool},tR d c b l=true->p∈l->CE d c p=true
 |y::l,b,h,j=>by
  rw[ik] at h;simp only[aNf] at h;rcases aNk.1 j with rfl|j
  .exact h.2.1
  exact ir h.2.2 j
def a4V: ∀(k N:Nat) (ps:List qF),sG ps<=k->k<=98->2*k+2<=N->wL ps<=1000000000->∀(d:Nat) (c b:Bool),tR d c b ps=true->(C3 N).2 ps=some (vY ps)
 |k,N,ps,hd,hk,hN,Z,d,c,b,hf=>by
  obtain⟨N,rfl⟩: ∃k,N=k+2:=⟨N-2,pM⟩;show SR (HR (C3 N).1 (C3 N).2) (C3 (N+1)).2 ps=_;unfold SR;have ha:=CD ps;have hX: ∀p:qF,(FI p).length<=1:=λp=>by unfold FI;split<;>simp
  rw[zj];have:=yB (f:=OB ps (HR (C3 N).1 (C3 N).2)) (l:=ps) (λj b=>(b,j)) (λb=>b) FI (M:=10000000000) (λi h b K=>by
   have E:=AT (aNc h);have Q:=yP (aNc h);have R:=a4M (ps:=ps) pM Z (aNc h);have F:=ir hf (aNc h);unfold OB;dsimp only;have I:qG ((i:Int)+1):=s7 pM;rw[Y4 h,aM4 (sI h),aM4 (rO h),R,aM3];simp only[aM4 I];unfold FI at K|-;cases Y:ps[i] with
   |mk k' t n st cs ps'=>
    rw[Y] at E K F;have⟨o1,o2,o3⟩:=DI (aNK E hd) pM;rw[Y,vN] at Q;have ih: ∀qs:List qF,sG qs+1<=k->wL qs<=1000000000->∀(d:Nat) (c b:Bool),tR d c b qs=true->(C3 N).2 qs=some (vY qs):=λqs h1 h2 d c b h3=>by
     cases k with
     |zero=>omega
     |succ k=>exact a4V k N qs pM pM pM h2 d c b h3
    cases D:xM (qF.mk k' t n st cs ps') with
    |true=>rw[aM9 (show¬(!true)=true by decide),aM4 rfl,List.append_nil]
    |false=>
     rw[D,aM9 (show¬false=true by simp)] at K;obtain⟨rfl,rfl,hu⟩:=zm F D;have O:HR (C3 N).1 (C3 N).2 (k',(([]:pI),(n,(([]:pI),(cs,(ps',()))))))=some (EO cs,vY ps'):=by
      unfold HR;dsimp only;rcases hu with⟨rfl,rfl,V⟩ |⟨U,rfl,X⟩
      .rw[aM4 (show (!(((7:Int)<=11)&&((11:Int)<=9)))=true by decide),ih ps' o3 pM _ _ _ V,aM3,zi]
      rw[aM9 (show¬(!((7<=k')&&decide (k'<=9)))=true by simp [U])];have he:=BJ cs;have G:=a4S (f:=X1 cs (C3 N).2) (l0:=cs) (n:=cs.length) (λx=>x) Y7 (λj z l hl hg=>by
       have hc:=iq X (aNc z);unfold X1;dsimp only;rw[a4T (t:=rT) hg,aM4 (sI z),aM4 (rO z),ih _ (by have:=CC (aNc z);omega) (by have:=yC (aNc z);omega) _ _ _ hc,aM3,aM4 (rO z),aM4 (s7 pM),aNL];rfl) (λl=>by
       unfold X1;dsimp only;rw[aM9 (sO _)])
      unfold NR;rw[aM4 pM,aM3,List.nil_append,G,zh,zk];rfl
     rw[aM4 (show (!false)=true by decide),show qF.un (qF.mk k' [] n [] cs ps')=(k',(([]:pI),(n,(([]:pI),(cs,(ps',())))))) from rfl,O,aM3,aM4 (by simp only[aM5,aM8] at K|-;omega),aM9 (show¬false=true by simp),zg];rfl) (λb=>by
   unfold OB;dsimp only;rw[aM9 (sO _)]) [] (by have:=BF (l:=ps) (λp _=>hX p);simp only[aM8];omega)
  rw[this];rfl
def zn {c:Bool}{ps:List qF}(h:yE c ps=true):tR 1 c false ps=true:=by
 unfold yE at h;simp only[aNf] at h;exact h.1.1
def aIs {ps:List qF}(z:sG ps<=98) (j:wL ps<=1000000000) (hv:yE false ps=true):TT ps=some (vY ps,0):=by
 unfold TT;rw[zd z j,hv,aM3,aM9 (show¬(!true)=true by decide),show X2 ps=(C3 1000).2 ps from by rw[aMN],a4V 98 1000 ps z pM pM j _ _ _ (zn hv)];rfl
def wW (n:Nat):pI:=Lib.itoa (n:Int)
def Q0 {n:Nat}(h:n<=1000000000):(wW n).length<=21:=Lib.itoa_length_le _ pM pM
def a4W (n:Nat):wW n=Lib.decDigits n:=Lib.itoa_nonneg n
def a4X {q:Nat}(h:q<10):IV (IntKind.wrap .i32 ((48:Int)+(q:Int)))=[UInt8.ofNat (48+q)]:=by
 rcases(show q=0\/q=1\/q=2\/q=3\/q=4\/q=5\/q=6\/q=7\/q=8\/q=9 by omega) with h|h|h|h|h|h|h|h|h|h<;>subst h<;>rfl
def a4Y: ∀(k N n:Nat),n<10^k->n<=1000000000->k+1<=N->dv N (n:Int)=some (wW n)
 |k,N,n,z,hb,E=>by
  obtain⟨N,rfl⟩: ∃k,N=k+1:=⟨N-1,pM⟩;show S5 (dv N) (n:Int)=_;unfold S5;rw[a4W];by_cases j:n<10
  .rw[aM4 pP,aM4 aPv,a4X j,Lib.decDigits,aOS j]
  cases k with
  |zero=>simp at z;omega
  |succ k=>
   have e1:Int.tdiv (n:Int) (10:Int)=((n/10:Nat):Int):=by rw[Int.tdiv_eq_ediv_of_nonneg pM];rfl
   have e2:Int.tmod (n:Int) (10:Int)=((n%10:Nat):Int):=by rw[aOu pM];rfl
   have e3:IntKind.wrap .i64 ((n/10:Nat):Int)=((n/10:Nat):Int):=by rw[aOG];omega
   have D:=Q0 (n:=n/10) pM;rw[aM9 pP,e1,e2,e3,a4Y k N (n/10) (by rw[Nat.pow_succ] at z;omega) pM pM,aM3,a4X pM,aM4 aPv,aM4 aPC,a4W]
   conv=>rhs;rw[Lib.decDigits,aOA j]
def zo {n:Nat}(h:n<=1000000000):NH (n:Int)=some (wW n):=by rw[aHj];exact a4Y 10 1000 n pM h pM
def a4Z: ∀(k N:Nat) (ps:List qF),sG ps<=k->k<=99->k+1<=N->wL ps<=1000000000->OD N ps=some ps
 |k,N,ps,K,hk,Y,V=>by
  obtain⟨N,rfl⟩: ∃k,N=k+1:=⟨N-1,pM⟩;show OC (OD N) ps=_;unfold OC;have R:=CD ps;have:=yB (f:=X4 ps (OD N)) (l:=ps) (λj b=>(b,j)) (λb=>b) (λp=>[p]) (M:=10000000000) (λi h b O=>by
   have D:=AT (aNc h);have G:=yP (aNc h);unfold X4;dsimp only;rw[aM4 (sI h),aM4 (rO h)];cases F:ps[i] with
   |mk k' t n st cs ps'=>
    rw[F] at D;have⟨o1,o2,o3⟩:=DI (aNK D K) pM;rw[F,vN] at G;have U:=BJ cs;have ih: ∀qs:List qF,sG qs+1<=k->wL qs<=1000000000->OD N qs=some qs:=λqs Z Q=>by
     cases k with
     |zero=>omega
     |succ k=>exact a4Z k N qs pM pM pM Q
    have E:=a4S (f:=X3 cs (OD N)) (l0:=cs) (n:=cs.length) (λx=>x) (λx=>x) (λj z l X I=>by
     unfold X3;dsimp only;rw[a4T (t:=rT) I,aM4 (sI z),aM4 (rO z),ih _ (by have:=CC (aNc z);omega) (by have:=yC (aNc z);omega),aM3,aM4 (rO z),aM4 (s7 pM),aNL]) (λl=>by
     unfold X3;dsimp only;rw[aM9 (sO _)])
    rw[xB h F];dsimp only;unfold NR;rw[ih ps' o3 pM,aM3,aM4 pM,aM3,List.nil_append,E];unfold rA;rw[aM3];dsimp only;rw[List.map_id',aM4 (by simp only[aM5,aM8] at O|-;omega),aM4 (s7 pM)];rfl) (λb=>by
   unfold X4;dsimp only;rw[aM9 (sO _)]) [] (by have:=BF (l:=ps) (h:=λp=>[p]) (B:=1) (λ_ _=>by simp);simp only[aM8];omega)
  rw[this,IN,List.map_id'];rfl
def a40 {ps:List qF}(z:sG ps<=98) (j:wL ps<=1000000000):HS ps=some ps:=by rw[aMO];exact a4Z 98 1000 ps z pM pM j
mutual
def GO (path:pI):qF->List (pI×List qF×Unit)
 | .mk k _ _ _ cs ps=>if k=11 then uP path [] 0 ps else FJ path cs
termination_by p=>SizeOf.sizeOf p
def uP (path:pI) (run:List qF) (n:Nat):List qF->List (pI×List qF×Unit)
 |[]=>[(path++wW n,run,())]
 |p::l=>if xM p=true then uP path (run++[p]) n l else[(path++wW n,run,())]++(GO (path++wW (n+1)++[47]) p++uP path [] (n+1) l)
termination_by l=>SizeOf.sizeOf l
def FJ (path:pI):List (pI×List qF×Unit)->List (pI×List qF×Unit)
 |[]=>[]
 |(k,ps,_)::l=>uP (path++k++[47]) [] 0 ps++FJ path l
termination_by l=>SizeOf.sizeOf l
end
def Q2 (path:pI) (c:rM):List rM:=uP (path++c.1++[47]) [] 0 c.2.1
def Y8 {path:pI}{k:Int}{t n st:pI}{cs:List rM}{ps:List qF}:GO path (.mk k t n st cs ps)=if k=11 then uP path [] 0 ps else FJ path cs:=by rw[GO]
def zp {path:pI}{run:List qF}{n:Nat}:uP path run n []=[(path++wW n,run,())]:=by rw[uP]
def zq {path:pI}{run:List qF}{n:Nat}{p:qF}{l:List qF}:uP path run n (p::l)=if xM p=true then uP path (run++[p]) n l else[(path++wW n,run,())]++(GO (path++wW (n+1)++[47]) p++uP path [] (n+1) l):=by rw[uP]
def zr {path:pI}:FJ path []=[]:=by rw[FJ]
def a41 {path:pI}{x:rM}{l:List rM}:FJ path (x::l)=Q2 path x++FJ path l:=by obtain⟨a,b,u⟩:=x;rw[FJ];rfl
def iu {path:pI}: ∀l:List rM,FJ path l=l.flatMap (Q2 path)
 |[]=>zr
 |c::l=>by rw[a41,aNX,iu l]
mutual
def a42: ∀(p:qF) (path:pI),(GO path p).length+1<=wP p
 | .mk k t n st cs ps,path=>by
  have z:=Q3 ps path [] 0;have j:=iw cs path;rw[Y8,vN];split<;>omega
termination_by p=>SizeOf.sizeOf p
def Q3: ∀(l:List qF) (path:pI) (run:List qF) (n:Nat),(uP path run n l).length<=1+wL l
 |[],path,run,n=>by rw[zp];simp
 |p::l,path,run,n=>by
  have D:=a42 p (path++wW (n+1)++[47]);have z:=Q3 l path [] (n+1);have j:=Q3 l path (run++[p]) n;rw[zq,CB];split
  .omega
  simp only[aM7,aM5,aM8];omega
termination_by l=>SizeOf.sizeOf l
def iw: ∀(l:List (pI×List qF×Unit)) (path:pI),(FJ path l).length<=wC l
 |[],path=>by rw[zr];simp
 |(k,ps,u)::l,path=>by
  have z:=Q3 ps (path++k++[47]) [] 0;have j:=iw l path;rw[a41,KZ,aM7];unfold Q2;dsimp only;omega
termination_by l=>SizeOf.sizeOf l
end
def a43 (D W:Nat) (c:rM):Prop:=sG c.2.1<=D/\wL c.2.1<=W
mutual
def aIt: ∀(p:qF) (path:pI) (D W:Nat),EL p<=D->wP p<=W->∀c∈GO path p,a43 D W c
 | .mk k t n st cs ps,path,D,W,z,j=>by
  have h0:1<=(if zH k st cs=true then 1 else 100):=by split<;>omega
  rw[XV] at z;rw[vN] at j;rw[Y8];split
  .exact iy ps path [] 0 D W (by rw[FF];omega) pM aPF
  exact zq16 cs path D W pM pM
termination_by p=>SizeOf.sizeOf p
def iy: ∀(l:List qF) (path:pI) (run:List qF) (n D W:Nat),sG run<=D->sG l<=D->wL run+wL l<=W->∀c∈uP path run n l,a43 D W c
 |[],path,run,n,D,W,hr,E,z,c,j=>by
  rw[zp,aNn] at j;subst j;exact⟨hr,by dsimp only;omega⟩
 |p::l,path,run,n,D,W,hr,E,z,c,j=>by
  rw[IE] at E;rw[CB] at z;rw[zq] at j;split at j
  .exact iy l path (run++[p]) n D W (by rw[yd];omega) pM (by rw[gr];omega) c j
  rcases aNU.1 j with j|j
  .rw[aNn] at j;subst j;exact⟨hr,by dsimp only;omega⟩
  rcases aNU.1 j with j|j
  .exact aIt p _ D W pM pM c j
  exact iy l path [] (n+1) D W (by rw[FF];omega) pM aPF c j
termination_by l=>SizeOf.sizeOf l
def zq16: ∀(l:List (pI×List qF×Unit)) (path:pI) (D W:Nat),zI l<=D->wC l<=W->∀c∈FJ path l,a43 D W c
 |[],path,D,W,_,_,c,j=>by rw[zr] at j;cases j
 |(k,ps,u)::l,path,D,W,E,z,c,j=>by
  rw[gq] at E;rw[KZ] at z;rw[a41] at j;dsimp only at E z;rcases aNU.1 j with j|j
  .exact iy ps _ [] 0 D W (by rw[FF];omega) pM aPF c j
  exact zq16 l path D W pM pM c j
termination_by l=>SizeOf.sizeOf l
end
def iz {σ ρ:Type}{f:σ->Option (σ⊕ρ)}(st:List rM->List qF->Int->Int->σ) (out:List rM->List qF->Int->ρ) {l:List qF}{path:pI}{M:Nat}
  (E: ∀(i:Nat) (h:i<l.length) (o:List rM) (run:List qF) (n:Nat),n<=i->run.length<=i->(∀p∈run,p∈l)->wL run<=wL l->o.length+wP l[i]<=M->f (st o run (n:Int) (i:Int))=some (.inl (if xM l[i]=true then st o (run++[l[i]]) (n:Int) ((i:Int)+1) else st ((o++[(path++wW n,run,())])++GO (path++wW (n+1)++[47]) l[i]) [] (((n+1:Nat)):Int) ((i:Int)+1))))
  (G: ∀o run n,f (st o run n (l.length:Int))=some (.inr (out o run n))):
  ∀(m j:Nat) (o:List rM) (run:List qF) (n:Nat),j+m=l.length->n<=j->run.length<=j->(∀p∈run,p∈l)->wL run+wL (l.drop j)<=wL l->o.length+wL (l.drop j)<=M->
  ∃(o':List rM) (run':List qF) (n':Nat),rC f (st o run (n:Int) (j:Int))=some (out o' run' (n':Int))/\o'++[(path++wW n',run',())]=o++uP path run n (l.drop j)/\n'<=l.length/\(∀p∈run',p∈l)/\wL run'<=wL l/\o'.length<=M
 |0,j,o,run,n,K,F,hr,hm,D,I=>by
  have:j=l.length:=by omega
  subst this;rw[aNH,BI] at D I;refine⟨o,run,n,xP (G _ _ _),?_,F,hm,pM,pM⟩;rw[aNH,zp]
 |m+1,j,o,run,n,K,F,hr,hm,D,I=>by
  have z:j<l.length:=by omega
  rw[aNm z,CB] at D I;rw[aNm z,zq];have hst:=E j z o run n F hr hm pM pM;by_cases hp:xM l[j]=true
  .rw[aM4 hp] at hst|-;rw[AB hst,show ((j:Int)+1)=((j+1:Nat):Int) by omega];exact iz st out E G m (j+1) o (run++[l[j]]) n pM pM aPC (λp hp=>by
    rcases aNU.1 hp with h|h
    .exact hm p h
    rw[aNn] at h;rw[h];exact aNc z) (by rw[gr];omega) pM
  rw[aM9 hp] at hst|-;have O:=a42 l[j] (path++wW (n+1)++[47]);obtain⟨o',run',n',e1,e2,e3⟩:=iz st out E G m (j+1) ((o++[(path++wW n,run,())])++GO (path++wW (n+1)++[47]) l[j]) [] (n+1) pM pM pO (λp hp=>by cases hp) aPF aPH;rw[AB hst,show ((j:Int)+1)=((j+1:Nat):Int) by omega];exact⟨o',run',n',e1,by rw[e2];simp only[aNd],e3⟩
def zs {D:Nat}{l:List qF}(z:sG l<=D): ∀{run:List qF},(∀p∈run,p∈l)->sG run<=D
 |[],_=>by rw[FF];omega
 |p::r,h=>by
  rw[IE];have F:=AT (h p aNq);have E:=zs z (run:=r) λq j=>h q (aNp _ j);omega
section
variable {l:List qF}{G:List qF->pI->Option (List rM)}{i:Nat}{k:Int}{t n st:pI}{cs:List rM}{ps:List qF}
def a44 (hi:i<l.length) (E:l[i]= .mk k t n st cs ps) {path num:pI}{P:Nat}(hP:P<=1000000000000) (D: ∀x∈cs,∀path:pI,path.length<=P->G x.2.1 path=some (uP path [] 0 x.2.1)) (R:wC cs<=1000000000) (hp:path.length+num.length+2+wC cs<=P) (x:List rM) (Q:x.length<=10000000000):
  rC (JV l path (i:Int) num G) (x,0)=some (x++FJ (path++num++[47]) cs):=by
 have F:=BJ cs;have z:=iw cs (path++num++[47]);rw[iu] at z|-;refine yB (f:=JV l path (i:Int) num G) (l:=cs) (λj b=>(b,j)) (λb=>b) (Q2 (path++num++[47])) (M:=100000000000) (λj h b K=>?_) (λb=>?_) x pM
 .have O:=yC (aNc h);have I:=D cs[j] (aNc h) (path++num++[47]++(cs[j]).1++[47]) aPH;unfold JV;dsimp only;rw[xB hi E];dsimp only;rw[v7 (t:=rT) h,aM4 (sI h),aM4 (rO h),aM4 (rO h),aM4 aPH,aM4 aPH,I,aM3,aM4 (by unfold Q2 at K;omega),aM4 (s7 pM)];rfl
 unfold JV;dsimp only;rw[xB hi E];dsimp only;rw[aM9 (sO _)]
end
def a45: ∀(k N:Nat) (ps:List qF),sG ps<=k->k<=98->k+1<=N->wL ps<=1000000000->∀(d:Nat) (c b:Bool),tR d c b ps=true->∀path:pI,path.length<=2000000000*(60-k)->k<=20->G3 N ps path=some (uP path [] 0 ps)
 |k,N,ps,hd,hk,hN,hw,d,c,b,hf,path,hp,Y=>by
  obtain⟨N,rfl⟩: ∃k,N=k+1:=⟨N-1,pM⟩;show SB (G3 N) ps path=_;unfold SB;have hc:=CD ps;obtain⟨o',run',n',e1,e2,e3,e4,e5,e6⟩:=iz (f:=JW ps path (G3 N)) (λo run n i=>(o,run,n,i)) (λo run n=>(o,run,n)) (l:=ps) (path:=path) (M:=2000000000) (λi h o run n hn hr hm ha D=>by
   have E:=AT (aNc h);have O:=yP (aNc h);have R:=a4O (ps:=ps) pM hw h;have F:=ir hf (aNc h);have I:qG ((i:Int)+1):=s7 pM;unfold JW;dsimp only;rw[aM4 (sI h),aM4 (rO h),aM4 (s7 pM),aM4 ⟨pM,pM,pM⟩,R,aM3,Y4 h,qF.of_un];simp only[aM4 I];cases K:ps[i] with
   |mk k' t n2 st cs ps'=>
    rw[K] at E D F;have⟨o1,o2,o3⟩:=DI (aNK E hd) pM;rw[K,vN] at O;cases Q:xM (qF.mk k' t n2 st cs ps') with
    |true=>
     rw[aM4 rfl,aM4 rfl,aM4 aPD]
    |false=>
     have ih: ∀qs:List qF,sG qs+1<=k->wL qs<=1000000000->∀(d:Nat) (c b:Bool),tR d c b qs=true->∀path:pI,path.length<=2000000000*(60-k)+2000000000->G3 N qs path=some (uP path [] 0 qs):=λqs h1 h2 d c b h3 path hp=>by
      cases k with
      |zero=>omega
      |succ k=>exact a45 k N qs pM pM pM h2 d c b h3 path pM pM
     have U:=Q0 (n:=n) pM;have Z:=Q0 (n:=n+1) pM;obtain⟨rfl,rfl,hu⟩:=zm F Q;rw[aM9 (show¬false=true by simp),aM9 (show¬false=true by simp),zo (n:=n) pM,aM3,aM4 aPJ,aM4 (by rw[vN] at D;simp only[aM5,aM8];omega),aM4 aPv,show ((n:Int)+1)=((n+1:Nat):Int) by omega,zo (n:=n+1) pM,aM3,aM4 aPJ,aM4 aPH];unfold rA;rw[show qF.un (qF.mk k' [] n2 [] cs ps')=(k',(([]:pI),(n2,(([]:pI),(cs,(ps',())))))) from rfl];dsimp only;rcases hu with⟨rfl,rfl,V⟩ |⟨hg,rfl,X⟩
     .have he:=Q3 ps' (path++wW (n+1)++[47]) [] 0;have j:=a44 (G:=G3 N) (path:=path) (num:=wW (n+1)) h K (P:=1000000000000) pM (λx z=>by cases z) (by rw[EM];omega) (by rw[EM];omega) ((o++[(path++wW n,run,())])++uP (path++wW (n+1)++[47]) [] 0 ps') aPK;rw[zr,List.append_nil] at j;rw[aM4 (xA rfl),ih ps' o3 pM _ _ _ V _ aPH,aM3,aM4 aPK,aM3,j,aM3,Y8,aM4 rfl]
     have j:=a44 (G:=G3 N) (path:=path) (num:=wW (n+1)) h K (P:=2000000000*(60-k)+2000000000) pM (λx z path hp=>ih x.2.1 (by have:=CC z;omega) (by have:=yC z;omega) _ _ _ (iq X z) path hp) pM pM (o++[(path++wW n,run,())]) aPK;rw[aM9 (show¬decide (k'=11)=true by simp;omega),aM3,j,aM3,Y8,aM9 pM]) (λo run n=>by
   unfold JW;dsimp only;rw[aM9 (sO _)]) ps.length 0 [] [] 0 pM pM pO (λp hp=>by cases hp) (by rw[aNG,BI];omega) (by rw[aNG];simp only[aM8];omega)
  rw[aNG,List.nil_append] at e2;have U:=Q0 (n:=n') pM;unfold rA;rw[show rC (JW ps path (G3 N)) (([]:List rM),([]:List qF),(0:Int),(0:Int))=_ from e1,aM3];dsimp only;rw[zo (n:=n') pM,aM3,aM4 aPJ,aM4 aPD,e2]
end Go.Proofs.YtedimeeleabhnaaGreatDoor
namespace Go.Proofs.YtedimeeleabhnaaGreatDoor
open Vc
abbrev LFT:Type:=L2->pI->List rM->Option (List rM)
def aIv {k:Nat}{ps:List qF}(Y:sG ps<=k) (hk:k<=98) (K:wL ps<=1000000000) {d:Nat}{c b:Bool}(hf:tR d c b ps=true) {GL:LFT}{P:Nat}(hP:P<=1000000000000) {path:pI}(hp:path.length+23<=P)
    (Q: ∀p∈ps,xM p=false->∀(path:pI) (o:List rM),path.length<=P->o.length<=P+1000000002->GL (qF.un p) path o=some (o++GO path p)) (out:List rM) (V:out.length<=P):
    (rA (rC (HV ps path GL) (([]:List qF),(0:Int),(0:Int),out)) fun(O,a8,aA)=>
 if-9223372036854775808<=a8/\a8<=9223372036854775807 then
  if ((path++(Lib.itoa a8)).length:Int)<=9223372036854775807 then
   (HS O).bind λaB=>
   if (aA.length+([((path++(Lib.itoa a8)),(aB,()))]:List rM).length)*40<=140737488355328 then
    some ((aA++([((path++(Lib.itoa a8)),(aB,()))]:List rM)))
   else none
  else none
 else none)=some (out++uP path [] 0 ps):=by
  have U:=CD ps
  obtain⟨o',run',n',e1,e2,e3,e4,e5,e6⟩:=iz (f:=HV ps path GL) (λo run n i=>(run,n,i,o)) (λo run n=>(run,n,o)) (l:=ps) (path:=path) (M:=P+1000000001) (λi h o run n X hr hm R Z=>by
    have F:=a4M (ps:=ps) pM K (aNc h);have G:=a40 (ps:=run) (zs pM hm) pM;have D:qG ((i:Int)+1):=s7 pM;have j:=Q0 (n:=n) pM;have z:=Q0 (n:=n+1) pM;unfold wW at j z;unfold HV;dsimp only;rw[Y4 h,aM4 (sI h),aM4 (rO h),F,aM3,qF.of_un];simp only[aM4 D];cases E:xM ps[i] with
    |true=>rw[aM4 rfl,aM4 rfl,aM4 aPD]
    | false=>
      have I:=a39 ps[i];rw[aM9 (show¬false=true by simp),aM9 (show¬false=true by simp),aM4 ⟨pM,pM⟩,aM4 aPJ,G,aM3,aM4 aPD,aM4 aPv,aM4 ⟨pM,pM⟩,show ((n:Int)+1)=((n+1:Nat):Int) by omega,aM4 aPJ,aM4 aPH,Q _ (aNc h) E _ _ aPH aPH,aM3];rfl) (λo run n=>by
    unfold HV;dsimp only;rw[aM9 (sO _)]) ps.length 0 out [] 0 pM pM pO (λp hp=>by cases hp) (by rw[aNG,BI];omega) (by rw[aNG];omega)
  rw[aNG] at e2;have j:=Q0 (n:=n') pM;unfold wW at j;unfold rA;rw[show rC (HV ps path GL) (([]:List qF),(0:Int),(0:Int),out)=_ from e1,aM3];dsimp only;rw[aM4 ⟨pM,pM⟩,aM4 aPJ,a40 (zs pM e4) pM,aM3,aM4 aPD,<-e2];rfl
def aIw {k':Int}{t n st:pI}{cs:List rM}{ps:List qF}{GV:List qF->pI->List rM->Option (List rM)}{g1 g2}{d:Nat}{c:Bool}{P:Nat}(hP:P<=1000000000000) (G:CE d c (.mk k' t n st cs ps)=true) (D:xM (.mk k' t n st cs ps)=false)
    (z: ∀(d:Nat) (c b:Bool),tR d c b ps=true->∀(path:pI) (o:List rM),path.length<=P->o.length<=P->GV ps path o=some (o++uP path [] 0 ps))
    (O: ∀x∈cs,∀(d:Nat) (c b:Bool),tR d c b x.2.1=true->∀(path:pI) (o:List rM),path.length<=P->o.length<=P->GV x.2.1 path o=some (o++uP path [] 0 x.2.1))
    (Y:64+t.length+n.length+st.length+wC cs+wL ps<=1000000000) (path:pI) (o:List rM) (hp:path.length+1000000001<=P) (Z:o.length+1000000000<=P):
    SV g1 g2 GV (k',(t,(n,(st,(cs,(ps,())))))) path o=some (o++GO path (.mk k' t n st cs ps)):=by
  have Q:=BJ cs;obtain⟨rfl,rfl,R⟩:=zm G D;unfold SV;dsimp only;rw[Y8];rcases R with⟨rfl,rfl,I⟩ |⟨F,rfl,K⟩
  .rw[aM4 (show (!(((7:Int)<=11)&&((11:Int)<=9)))=true by decide),z _ _ _ I _ _ pM pM,aM3,aM4 rfl]
  rw[aM9 (show¬(!((7<=k')&&(k'<=9)))=true by simp [F]),aM9 pM,iu]
  have E:=iw cs path;rw[iu] at E
  have:=yB (f:=OI (k',(([]:pI),(n,(([]:pI),(cs,(([]:List qF),())))))) path GV) (l:=cs) (λj b=>(j,b)) (λb=>b) (Q2 path) (M:=o.length+wC cs) (λj h b U=>by
    have V:=yC (aNc h);have X:=Q3 (cs[j]).2.1 (path++(cs[j]).1++[47]) [] 0;unfold OI;dsimp only;rw[v7 (t:=rT) h,aM4 (sI h),aM4 (rO h),aM4 aPJ,aM4 aPH,O _ (aNc h) _ _ _ (iq K (aNc h)) _ _ aPH (by unfold Q2 at U;omega),aM3,aM4 (s7 pM)];rfl) (λb=>by
    unfold OI;dsimp only;rw[aM9 (sO _)]) o pM
  rw[this];rfl
def a47: ∀(k N:Nat) (ps:List qF),sG ps<=k->k<=20->3*k+3<=N->wL ps<=1000000000->∀(d:Nat) (c b:Bool),tR d c b ps=true->∀(path:pI) (o:List rM),path.length<=3000000000*(60-k)->o.length<=3000000000*(60-k)->(AN N).1 o ps path=some (o++uP path [] 0 ps)
  | k,N,ps,O,hk,V,Q,d,c,b,hf,path,o,hp,R=>by
    obtain⟨N,rfl⟩: ∃k,N=k+3:=⟨N-3,pM⟩;show HW (AN (N+2)).1 (AN (N+2)).2.1 (AN (N+2)).2.2 o ps path=_;unfold HW
    have ih: ∀qs:List qF,sG qs+1<=k->wL qs<=1000000000->∀(d:Nat) (c b:Bool),tR d c b qs=true->∀(path:pI) (o:List rM),path.length<=3000000000*(60-k)+3000000000->o.length<=3000000000*(60-k)+3000000000->SW (AN N).1 (AN N).2.1 (AN N).2.2 qs path o=some (o++uP path [] 0 qs):=λqs X U d c b z path o E D=>by
      unfold SW;cases k with
      |zero=>omega
      |succ k=>rw[a47 k N qs pM pM pM U d c b z path o pM pM];rfl
    refine aIv O pM Q hf (P:=3000000000*(60-k)+23) pM pM (λp j G path o hp R=>?_) o pM;have I:=AT j;have F:=yP j;have K:=ir hf j;obtain⟨k',t,n,st,cs,ps'⟩:=p;have⟨o1,o2,o3⟩:=DI (aNK I O) pM;rw[vN] at F;exact aIw (g1:=(AN (N+1)).1) (g2:=(AN (N+1)).2.1) (P:=3000000000*(60-k)+3000000000) pM K G (λd c b z path o E D=>ih ps' o3 pM d c b z path o E D) (λx M d c b z path o E D=>ih x.2.1 (by have:=CC M;omega) (by have:=yC M;omega) d c b z path o E D) pM path o pM pM
def aIx (ps:List qF) (path:pI):SY ps path=HW eq SX er [] ps path:=by rw[SY.eq_1,HW.eq_1]<;>rfl
def aIy {ps:List qF}(z:sG ps<=15) (j:wL ps<=1000000000) (hv:yE false ps=true):TR ps=some (uP [] [] 0 ps,0):=by
  unfold TR;have h:=a47 15 1001 ps z pM pM j _ _ _ (zn hv) [] [] pO pO;rw[zd pM j,hv,aM3,aM9 (show¬(!true)=true by decide),aIx,show HW eq SX er [] ps []=(AN 1001).1 [] ps [] from by rw[aMQ,aMR,aMS];rfl,h];rfl
def aIz {ps:List qF}(z:sG ps<=15) (j:wL ps<=1000000000) (hv:yE false ps=true):TL ps=some (uP [] [] 0 ps,0):=by
  unfold TL;have h:=a45 15 1000 ps z pM pM j _ _ _ (zn hv) [] pO pM;rw[ze pM j,hv,aM3,aM9 (show¬(!true)=true by decide),show WU ps []=G3 1000 ps [] from by rw[aML],h];rfl
def aIA:((List.range 256).all λb=>[true,false].all λf=>decide (NU 2 (b:Int) f=some (PJ 2 b f))&&(decide (SE 2 (b:Int) f=some (PJ 2 b f))&&decide ((PJ 2 b f).length<=6)))=true:=by kernel_rfl
def zt {b:Nat}(hb:b<256) (f:Bool):NU 2 (b:Int) f=some (PJ 2 b f)/\SE 2 (b:Int) f=some (PJ 2 b f)/\(PJ 2 b f).length<=6:=by
 have hf:f∈[true,false]:=by cases f<;>simp
 have h:=aN4.1 (aN4.1 aIA b aPe) f hf;simpa using h
def zu (s:pI) (i:Nat):(XO 2 s i).length<=6:=(zt (UInt8.toNat_lt _) _).2.2
def aIB (s:pI):(U6 2 s).length<=6*s.length:=by
 have:=a24 (g:=XO 2 s) (B:=6) s.length 0 λj _ _=>zu s j;unfold U6;omega
def aIC {s:pI}(j:fit s):SZ (2:Int) s=some (U6 2 s):=by
 unfold fit at j;have h:=a25 (f:=OJ (2:Int) s) (λi b=>(i,b)) (λb=>b) (n:=s.length) (M:=10000000000000) (B:=6) (λi=>tK (XO 2 s i)) (λi _=>by rw[xJ];exact zu s i) [] pP (λi b hi z=>by
  obtain⟨e1,_,e3⟩:=zt (UInt8.toNat_lt (s.getD i 0)) (decide (i=0));unfold OJ;dsimp only;rw[aM4 (sI hi),aM9 (show¬decide ((2:Int)=4)=true by decide),aM4 (rO hi),a26,a27,e1,aM3];unfold HL;rw[aM4 (by dsimp only;omega),aM3,aM4 (s7 pM)];rfl) (λb=>by
  unfold OJ;dsimp only;rw[aM9 (sO _)])
 unfold SZ;rw[aM9 pN,h,a28];unfold rA;rw[aM3,List.nil_append,PI];rfl
def a48 {s:pI}(j:fit s):T0 (2:Int) s=some (U6 2 s):=by
 unfold fit at j;have h:=a25 (f:=OK (2:Int) s) (λi b=>(b,i)) (λb=>b) (n:=s.length) (M:=10000000000000) (B:=6) (λi=>tK (XO 2 s i)) (λi _=>by rw[xJ];exact zu s i) [] pP (λi b hi z=>by
  obtain⟨_,e2,e3⟩:=zt (UInt8.toNat_lt (s.getD i 0)) (decide (i=0));unfold OK;dsimp only;rw[aM4 (sI hi),aM4 (rO hi),a26,a27,e2,aM3,aM4 pM,aM4 (s7 pM)];rfl) (λb=>by
  unfold OK;dsimp only;rw[aM9 (sO _)])
 unfold T0;rw[aM9 pN,h,a28];unfold rA;rw[aM3,List.nil_append,PI];rfl
def DK:pJ->pI
 |[]=>[]
 |x::r=>x++r.flatMap (λy=>[32]++y)
def a49: ∀l:pJ,F2 l [32]=DK l
 |[]=>rfl
 |x::r=>by
  show Lib.join (x::r) [32]=_;rw[Lib.join_cons];show x++(r.map ([32]++ ·)).flatten=x++r.flatMap (λy=>[32]++y);rw[List.flatMap_def]
def a5a {α:Type}{f:(pI×Int)->Option ((pI×Int)⊕pI)}{l:List α}(g:α->pI) {M:Nat}
  (hf: ∀(i:Nat) (h:i<l.length) (s:pI),0<i->s.length+(1+(g l[i]).length)<=M->f (s,(i:Int))=some (.inl (s++([32]++g l[i]),(i:Int)+1)))
  (D: ∀s,f (s,(l.length:Int))=some (.inr s)): ∀(m j:Nat) (s:pI),j+m=l.length->0<j->s.length+((l.drop j).flatMap λy=>[32]++g y).length<=M->rC f (s,(j:Int))=some (s++(l.drop j).flatMap λy=>[32]++g y)
 |0,j,s,F,_,_=>by
  have:j=l.length:=by omega
  subst this;rw[xP (D s),aNH];simp
 |m+1,j,s,F,h0,E=>by
  have z:j<l.length:=by omega
  rw[aNm z,aNX] at E|-;simp only[aM7,aM5,aM8] at E;rw[AB (hf j z s h0 pM),show ((j:Int)+1)=((j+1:Nat):Int) by omega,a5a g hf D m (j+1) _ pM pM aPH,aNd]
def a5b {α:Type}{f:(pI×Int)->Option ((pI×Int)⊕pI)}{l:List α}(g:α->pI) {M:Nat}
  (h0: ∀(h:0<l.length),(g l[0]).length<=M->f ([],0)=some (.inl (g l[0],1)))
  (hf: ∀(i:Nat) (h:i<l.length) (s:pI),0<i->s.length+(1+(g l[i]).length)<=M->f (s,(i:Int))=some (.inl (s++([32]++g l[i]),(i:Int)+1)))
  (z: ∀s,f (s,(l.length:Int))=some (.inr s)) (j:(DK (l.map g)).length<=M):rC f ([],0)=some (DK (l.map g)):=by
 cases l with
 |nil=>exact xP (z [])
 |cons x r=>
  have e:(r.map g).flatMap (λy=>[32]++y)=r.flatMap (λy=>[32]++g y):=by rw[List.flatMap_map]
  have es:DK (g x::r.map g)=g x++r.flatMap (λy=>[32]++g y):=by
   show g x++(r.map g).flatMap (λy=>[32]++y)=_;rw[e]
  rw[aN8,es] at j|-;rw[aM7] at j;have D:=h0 pO (by show (g x).length<=M;omega);rw[AB D];exact a5a g hf z r.length 1 (g x) pP pM j
def quo (x:pI):pI:=[34]++U6 2 x++[34]
def ja (x:pI):(quo x).length<=2+6*x.length:=by
 have:=aIB x;unfold quo;simp only[aM7,aM5,aM8];omega
def a5c {l:pJ}{B:Nat}(h: ∀x∈l,x.length<=B):(DK l).length<=l.length*(B+1):=by
 cases l with
 |nil=>simp [DK]
 |cons x r=>
  have D:=h x aNq;have z:=BF (l:=r) (h:=λy=>[32]++y) (B:=B+1) λy j=>by
   have:=h y (aNp _ j);simp only[aM7,aM5,aM8];omega
  unfold DK;rw[aM7,aM5,aN0];omega
def FK (l:pJ):pI:=DK (l.map quo)
def a5d {l:pJ}(h:IB l):(FK l).length<=300000000:=by
 have:=a5c (l:=l.map quo) (B:=36002) λx z=>by
  obtain⟨y,j,rfl⟩:=List.mem_map.1 z;have:=ja y;have:=h.2 y j;omega
 rw[aN9] at this;have D:=aOb 36003 h.1;unfold FK;omega
def a5e {l:pJ}(h:IB l):OQ l=some (FK l):=by
 have F:=a5d h;have G:=h.1;have:=yB (f:=OP l) (l:=l) (λj b=>(b,j)) (λb=>b) (λx=>[quo x]) (M:=1000000) (λi hi b E=>by
  have I:=h.2 l[i] (aNc hi);have D:=ja l[i];have z:=D;unfold quo at z;simp only[aM7,aM5,aM8] at z;unfold OP;dsimp only;rw[v7 (t:= .str) hi,aM4 (sI hi),aM4 (rO hi),aIC aPI,aM3,aM4 aPH,aM4 aPH,aM4 aPz,aM4 (s7 pM)];rfl) (λb=>by
  unfold OP;dsimp only;rw[aM9 (sO _)]) [] (by
   have:=BF (l:=l) (h:=λx=>[quo x]) (B:=1) (λ_ _=>by simp);simp only[aM8];omega)
 unfold OQ rA;rw[this,aM3,List.nil_append,IN,a49,aM4 ⟨by rw[aN9];omega,by show (FK l).length<=_;omega⟩];rfl
def a5f {l:pJ}(h:IB l):OR l=some (FK l):=by
 have z:=a5d h;have F:=h.1;have G: ∀i:Nat,(([34]:pI)++U6 2 (l.getD i [])++[34])=quo (l.getD i []):=λ_=>rfl;have:=a5b (f:=K5 l) (l:=l) quo (M:=300000000) (λhi E=>by
  have D:=h.2 l[0] (aNc hi);have j:=ja l[0];unfold quo at j;simp only[aM7,aM5,aM8] at j;unfold K5 rA;dsimp only;rw[show qH .str l (0:Int)=l[0] from v7 (t:= .str) (i:=0) hi,aM4 (show decide ((0:Int)<(l.length:Int))=true by simp;omega),aM9 (show¬decide ((0:Int)<(0:Int))=true by decide),aM3,aM4 aPH,aM4 ⟨pM,pM⟩,a48 aPI,aM3,aM4 aPH,aM4 aPH,aM4 aPv];rfl) (λi hi s h0 E=>by
  have D:=h.2 l[i] (aNc hi);have j:=ja l[i];unfold quo at j;simp only[aM7,aM5,aM8] at j;unfold K5 rA;dsimp only;rw[v7 (t:= .str) hi,aM4 (sI hi),aM4 (show decide ((0:Int)<(i:Int))=true by simp;omega),aM4 aPH,aM3,aM4 aPH,aM4 (rO hi),a48 aPI,aM3,aM4 aPH,aM4 aPH,aM4 (s7 pM)];unfold quo;simp only[aNd]) (λs=>by
  unfold K5;dsimp only;rw[aM9 (sO _)]) z
 unfold OR rA;rw[this];rfl
def a5g {l:pJ}(h:IB l):S0 l=some (DK l)/\(DK l).length<=40000000:=by
 have E:=h.1;have D:=a5c (l:=l) (B:=6000) h.2;have F:=aOb 6001 h.1;have:=a5b (f:=JM l) (l:=l) (λx=>x) (M:=300000000) (λhi z=>by
  have j:=h.2 l[0] (aNc hi);unfold JM;dsimp only;rw[show qH .str l (0:Int)=l[0] from v7 (t:= .str) (i:=0) hi,aM4 (show decide ((0:Int)<(l.length:Int))=true by simp;omega),aM9 (show¬decide ((0:Int)<(0:Int))=true by decide),aM4 ⟨pM,pM⟩,aM4 (by rw[List.nil_append];omega),aM4 aPv];rfl) (λi hi s h0 z=>by
  have j:=h.2 l[i] (aNc hi);unfold JM;dsimp only;rw[v7 (t:= .str) hi,aM4 (sI hi),aM4 (show decide ((0:Int)<(i:Int))=true by simp;omega),aM4 aPH,aM4 (rO hi),aM4 aPH,aM4 (s7 pM),aNd]) (λs=>by
  unfold JM;dsimp only;rw[aM9 (sO _)]) (by rw[List.map_id'];omega)
 rw[List.map_id'] at this;unfold S0 rA;rw[this];exact⟨rfl,pM⟩
abbrev yG:Type:=(Int×pI×pI×Unit)×pI×Bool×Unit
def uA (k:Int) (id path v:pI):yG:=((k,(id,(path,()))),(v,(false,())))
def EP {b:List yG}(h:b.length<=1000000000) (k:Int) (id path v:pI):zZ (b,()) k id path v=some ():=by
 unfold zZ;exact aM4 aPD
structure a5h (id:pI) (A:List yG):Prop where
 len:A.length<=50000000
 kind: ∀a∈A,(a.1.1=10\/a.1.1=11)/\a.1.2.1=id/\a.2.2.1=false
def aID (id s:pI) (O:s.length<=6000): ∃A,a5h id A/\I8 id s=some A/\(∀b:List yG,b.length<=500000000->KL (b,()) id s=some (b++A))/\
  (A=[uA 10 id [] ([61]++s)]\/∃v ps,sG ps<=9/\A=[uA 10 id [] v]++(uP [] [] 0 ps).map λc=>uA 11 id c.1 (yF true c.2.1).1):=by
 obtain⟨b,G,F,K⟩:=a4J s;cases b with
 |false=>
  refine⟨[uA 10 id [] ([61]++s)],⟨by simp,λa z=>?_⟩,?_,λb hb=>?_,.inl rfl⟩
  .rw[aNn] at z;subst z;exact⟨.inl rfl,rfl,rfl⟩
  .unfold I8;rw[F,aM3,aM4 (show (!false)=true by decide),aM4 aPH];rfl
  .unfold KL;rw[G,aM3,aM4 (show (!false)=true by decide),aM4 aPH,EP pM];rfl
 |true=>
  obtain⟨ps,x1,x2,x3,y1,y2,y3,k1,k2,k3,k4,k5,k6⟩:=K rfl;have I:=Q3 ps [] [] 0;have D:=iy ps [] [] 0 9 20000000 (by rw[FF];omega) k3 aPF;obtain⟨z1,z2⟩:=zl ps;refine⟨[uA 10 id [] (yF false (vY ps)).1]++(uP [] [] 0 ps).map λc=>uA 11 id c.1 (yF true c.2.1).1,⟨?_,λa z=>?_⟩,?_,λb hb=>?_,.inr ⟨_,ps,k3,rfl⟩⟩
  .simp only[aM7,aN9,aM5,aM8];omega
  .rcases aNU.1 z with z|z
   .rw[aNn] at z;subst z;exact⟨.inl rfl,rfl,rfl⟩
   obtain⟨c,_,rfl⟩:=List.mem_map.1 z;exact⟨.inr rfl,rfl,rfl⟩
  .have:=yB (f:=KH id (uP [] [] 0 ps,0)) (l:=uP [] [] 0 ps) (λj b=>(b,j)) (λb=>b) (λc=>[uA 11 id c.1 (yF true c.2.1).1]) (M:=1000000000) (λi h b E=>by
    obtain⟨q1,q2⟩:=D _ (aNc h);unfold KH;dsimp only;rw[v7 (t:=rT) h,aM4 (sI h),aM4 (rO h),aIl pM pM,aM3,aM4 (rO h),aM4 aPz,aM4 (s7 pM)];rfl) (λb=>by
    unfold KH;dsimp only;rw[aM9 (sO _)]) [uA 10 id [] (yF false (vY ps)).1] (by
     have:=BF (l:=uP [] [] 0 ps) (h:=λc=>[uA 11 id c.1 (yF true c.2.1).1]) (B:=1) (λ_ _=>by simp);simp only[aM5,aM8];omega)
   unfold I8 rA;rw[F,aM3,aM9 (show¬(!true)=true by decide),k2,aM3];dsimp only;rw[aIr pM pM k5,aM3];dsimp only;rw[a4I (ps:=vY ps) pM pM,aM3,aIz pM pM k5,aM3,show rC (KH id (uP [] [] 0 ps,0)) ([((10,(id,([],()))),((yF false (vY ps)).1,(false,())))],0)=_ from this,IN];rfl
  have:=yB (f:=KK id (uP [] [] 0 ps,0)) (l:=uP [] [] 0 ps) (λj b=>(j,b)) (λb=>b) (λc=>[uA 11 id c.1 (yF true c.2.1).1]) (M:=900000000) (λi h b E=>by
   obtain⟨q1,q2⟩:=D _ (aNc h);unfold KK;dsimp only;rw[v7 (t:=rT) h,aM4 (sI h),aM4 (rO h),aIk pM pM,aM3,EP pM,aM3,aM4 (s7 pM)];rfl) (λb=>by
   unfold KK;dsimp only;rw[aM9 (sO _)]) (b++[uA 10 id [] (yF false (vY ps)).1]) (by
    have:=BF (l:=uP [] [] 0 ps) (h:=λc=>[uA 11 id c.1 (yF true c.2.1).1]) (B:=1) (λ_ _=>by simp);simp only[aM7,aM5,aM8];omega)
  unfold KL rA;rw[G,aM3,aM9 (show¬(!true)=true by decide),k1,aM3];dsimp only;rw[aIs pM pM k5,aM3];dsimp only;rw[a4H (ps:=vY ps) pM pM,aM3,EP pM,aM3,aIy pM pM k5,aM3,show rC (KK id (uP [] [] 0 ps,0)) ((0:Int),b++[((10,(id,([],()))),((yF false (vY ps)).1,(false,())))])=_ from this,IN,aNd];rfl
def zv (n:Int):pI:=qH .str ([([110,101,119]:pI),([102,117,122,122,121]:pI),([116,114,97,110,115,108,97,116,101,100]:pI),([114,101,118,105,101,119,101,100]:pI),([111,98,115,111,108,101,116,101]:pI)]:pJ) n
noncomputable def L7 (id s:pI):List yG:=(I8 id s).getD []
def zw (id s:pI) (z:s.length<=6000):a5h id (L7 id s)/\I8 id s=some (L7 id s)/\(∀b:List yG,b.length<=500000000->KL (b,()) id s=some (b++L7 id s))/\
  (L7 id s=[uA 10 id [] ([61]++s)]\/∃v ps,sG ps<=9/\L7 id s=[uA 10 id [] v]++(uP [] [] 0 ps).map λc=>uA 11 id c.1 (yF true c.2.1).1):=by
 obtain⟨A,F,j,E,D⟩:=aID id s z;have e:L7 id s=A:=by unfold L7;rw[j];rfl
 rw[e];exact⟨F,j,E,D⟩
def IP (x:y9) (before:pI):List yG:=[uA 4 x.1 [] before,uA 5 x.1 [] x.2.1,uA 6 x.1 [] (FK x.2.2.2.1),uA 7 x.1 [] (DK x.2.2.2.2.1),uA 8 x.1 [] (zv x.2.2.2.2.2.1)]
noncomputable def IQ (x:y9) (before:pI):List yG:=(IP x before++x.2.2.2.2.2.2.1.map λf=>uA 9 x.1 f.1 f.2.1)++L7 x.1 x.2.2.1
def jc {l:List C8}{i:Nat}(h:i<l.length):qH sP l (i:Int)=l[i]:=v7 (t:= .pair .str (.pair .str .unit)) h
def aIE {x:y9}(D:U4 x) (E:0<=x.2.2.2.2.2.1/\x.2.2.2.2.2.1<=4) (b:List yG) (before:pI) (hb:b.length<=400000000):TX (b,()) x before=some (b++IQ x before):=by
 obtain⟨t1,t2,t3,t4⟩:=zw x.1 x.2.2.1 D.tgt;obtain⟨j1,j2⟩:=a5g D.flg;have F:=D.flg.1;have G:=D.fld.1;have z:=yB (f:=PB x) (l:=x.2.2.2.2.2.2.1) (λj b=>(j,b)) (λb=>b) (λf=>[uA 9 x.1 f.1 f.2.1]) (M:=450000000) (λi h b I=>by
  unfold PB;dsimp only;rw[jc h,aM4 (sI h),aM4 (rO h),EP pM,aM3,aM4 (s7 pM)];rfl) (λb=>by
  unfold PB;dsimp only;rw[aM9 (sO _)]) (b++IP x before) (by
   have:=BF (l:=x.2.2.2.2.2.2.1) (h:=λf=>[uA 9 x.1 f.1 f.2.1]) (B:=1) (λ_ _=>by simp);unfold IP;simp only[aM7,aM5,aM8];omega)
 have e1:b++[uA 4 x.1 [] before]++[uA 5 x.1 [] x.2.1]++[uA 6 x.1 [] (FK x.2.2.2.1)]++[uA 7 x.1 [] (DK x.2.2.2.2.1)]++[uA 8 x.1 [] (zv x.2.2.2.2.2.1)]=b++IP x before:=by
  simp only[aNd];rfl
 unfold uA at e1;unfold TX rA;dsimp only;rw[EP pM,aM3,EP aPH,aM3,a5e D.com,aM3,EP aPH,aM3,a49,aM4 ⟨pM,pM⟩,EP aPH,aM3,aM4 ⟨E.1,by show x.2.2.2.2.2.1<5;omega⟩,EP aPH,aM3];rw[show qH .str ([([110,101,119]:pI),([102,117,122,122,121]:pI),([116,114,97,110,115,108,97,116,101,100]:pI),([114,101,118,105,101,119,101,100]:pI),([111,98,115,111,108,101,116,101]:pI)]:pJ) x.2.2.2.2.2.1=zv x.2.2.2.2.2.1 from rfl,e1,z,aM3,t3 _ (by
  have:=BF (l:=x.2.2.2.2.2.2.1) (h:=λf=>[uA 9 x.1 f.1 f.2.1]) (B:=1) (λ_ _=>by simp);unfold IP;simp only[aM7,aM5,aM8];omega),aM3,IN]
 unfold IQ;simp only[aNd]
def aIF {x:y9}(D:U4 x) (E:0<=x.2.2.2.2.2.1/\x.2.2.2.2.2.1<=4) (before:pI):TV x before=some (IQ x before):=by
 obtain⟨t1,t2,t3,t4⟩:=zw x.1 x.2.2.1 D.tgt;obtain⟨j1,j2⟩:=a5g D.flg;have I:=D.fld.1;have G:=t1.len;have z:=yB (f:=KJ x) (l:=x.2.2.2.2.2.2.1) (λj b=>(b,j)) (λb=>b) (λf=>[uA 9 x.1 f.1 f.2.1]) (M:=450000000) (λi h b F=>by
  unfold KJ;dsimp only;rw[jc h,aM4 (sI h),aM4 (rO h),aM4 (rO h),aM4 (by simp only[aM5,aM8] at F|-;omega),aM4 (s7 pM)];rfl) (λb=>by
  unfold KJ;dsimp only;rw[aM9 (sO _)]) (IP x before) (by
   have:=BF (l:=x.2.2.2.2.2.2.1) (h:=λf=>[uA 9 x.1 f.1 f.2.1]) (B:=1) (λ_ _=>by simp);unfold IP;simp only[aM5,aM8];omega)
 rw[IN] at z;unfold TV WE rA;rw[a5f D.com,aM3,j1,aM3,aM4 ⟨E.1,by show x.2.2.2.2.2.1<5;omega⟩,aM3];rw[show rC (KJ x) (([(((4:Int),(x.1,(([]:pI),()))),(before,(false,()))),(((5:Int),(x.1,(([]:pI),()))),(x.2.1,(false,()))),(((6:Int),(x.1,(([]:pI),()))),(FK x.2.2.2.1,(false,()))),(((7:Int),(x.1,(([]:pI),()))),(DK x.2.2.2.2.1,(false,()))),(((8:Int),(x.1,(([]:pI),()))),((qH .str ([([110,101,119]:pI),([102,117,122,122,121]:pI),([116,114,97,110,115,108,97,116,101,100]:pI),([114,101,118,105,101,119,101,100]:pI),([111,98,115,111,108,101,116,101]:pI)]:pJ) x.2.2.2.2.2.1),(false,())))]:List yG),(0:Int))=_ from z,aM3,t2,aM3,aM4 (by
  simp only[aM7,aN9];unfold IP;simp only[aM5,aM8];omega)]
 rfl
def zx {x:y9}(j:U4 x) (before:pI):(IQ x before).length<=50007000:=by
 have D:=(zw x.1 x.2.2.1 j.tgt).1.len;have z:=j.fld.1;unfold IQ IP;simp only[aM7,aN9,aM5,aM8];omega
noncomputable def IR (before:pI):List y9->List yG
 |[]=>[]
 |x::l=>IQ x before++IR x.1 l
def EQ (c:C4):List yG:=[uA 1 [] [] c.1,uA 2 [] [] (FK c.2.1)]
noncomputable def zy (c:C4):List yG:=(EQ c++c.2.2.1.map λf=>uA 3 [] f.1 f.2.1)++IR [] c.2.2.2.1
structure Q4 (c:C4):Prop extends xf c where
 n8:c.2.2.2.1.length<=8
def aIG {c:C4}(hv:EK c=true) {i:Nat}(hi:i<c.2.2.2.1.length):(∀y∈c.2.2.2.1.take i,y.1≠(c.2.2.2.1[i]).1)/\PG c.2.2.2.1[i]=true:=by
 unfold EK at hv;simp only[aNf,aNS] at hv;have h:=hv.2.2;rw[aO2] at h;have:=h i (by simpa using hi);have e:c.2.2.2.1.getD i eD=c.2.2.2.1[i]:=by rw[aNy,aNe hi];rfl
 unfold KT at this;rw[e] at this;simp only[aOt,not_or,aOY,aO2,aNj,Bool.not_eq_false'] at this;exact this
def a5i {c:C4}(hv:EK c=true) {x:y9}(j:x∈c.2.2.2.1):0<=x.2.2.2.2.2.1/\x.2.2.2.2.2.1<=4:=by
 obtain⟨i,hi,rfl⟩:=aOC j;have h:=(aIG hv hi).2;unfold PG at h;simp only[aNf,aNj] at h;exact h.1.2
def a5j {c:C4}(h:xf c):XM c where
 tag:=by have:=h.tag;unfold fit;omega
 com:=xg h.com
 fld:=a22 h.fld
 len:=by have:=h.len;omega
 ent x j:=⟨U5 (h.ent x j).id,U5 (h.ent x j).src,U5 (h.ent x j).tgt,xg (h.ent x j).com,xg (h.ent x j).flg,a22 (h.ent x j).fld⟩
def a5k {B:Nat}: ∀{l:List y9}{before:pI},(∀x∈l,∀before,(IQ x before).length<=B)->(IR before l).length<=l.length*B
 |[],_,_=>by simp [IR]
 |x::l,before,h=>by
  have D:=h x aNq before;have z:=a5k (B:=B) (l:=l) (before:=x.1) λy j=>h y (aNp _ j);unfold IR;rw[aM7,aM5,aN0];omega
def zz {l:List y9}{i:Nat}(h:i<l.length):qH tJ l (i:Int)=l[i]:=v7 (t:=tJ) h
def a5l {c:C4}(D:Q4 c) (hv:EK c=true): ∀(m j:Nat) (before:pI) (b:List yG),j+m=c.2.2.2.1.length->b.length+m*50007000<=400100000->
  rC (GD c) (before,(j:Int),b)=some (b++IR before (c.2.2.2.1.drop j))
 |0,j,before,b,F,hb=>by
  have:j=c.2.2.2.1.length:=by omega
  subst this;rw[aNH];have:GD c (before,(c.2.2.2.1.length:Int),b)=some (.inr b):=by
   unfold GD;dsimp only;rw[aM9 (sO _)]
  rw[xP this];unfold IR;rw[List.append_nil]
 |m+1,j,before,b,F,hb=>by
  have z:j<c.2.2.2.1.length:=by omega
  have h8:=D.n8;have E:=D.ent _ (aNc z);have G:=zx E before;have hst:GD c (before,(j:Int),b)=some (.inl ((c.2.2.2.1[j]).1,((j:Int)+1),b++IQ c.2.2.2.1[j] before)):=by
   unfold GD;dsimp only;rw[zz z,aM4 (sI z),aM4 (rO z),aIE E (a5i hv (aNc z)) b before pM,aM3,aM4 (s7 pM)]
  rw[AB hst,show ((j:Int)+1)=((j+1:Nat):Int) by omega,a5l D hv m (j+1) _ _ pM aPA,aNm z,aNd];rfl
def a5m {c:C4}(D:Q4 c) (hv:EK c=true): ∀(m j:Nat) (before:pI) (b:List yG),j+m=c.2.2.2.1.length->b.length+m*50007000<=400100000->
  rC (GB c) (b,before,(j:Int))=some (b++IR before (c.2.2.2.1.drop j))
 |0,j,before,b,F,hb=>by
  have:j=c.2.2.2.1.length:=by omega
  subst this;rw[aNH];have:GB c (b,before,(c.2.2.2.1.length:Int))=some (.inr b):=by
   unfold GB;dsimp only;rw[aM9 (sO _)]
  rw[xP this];unfold IR;rw[List.append_nil]
 |m+1,j,before,b,F,hb=>by
  have z:j<c.2.2.2.1.length:=by omega
  have h8:=D.n8;have E:=D.ent _ (aNc z);have G:=zx E before;have hst:GB c (b,before,(j:Int))=some (.inl (b++IQ c.2.2.2.1[j] before,(c.2.2.2.1[j]).1,((j:Int)+1))):=by
   unfold GB;dsimp only;rw[zz z,aM4 (sI z),aM4 (rO z),aIF E (a5i hv (aNc z)) before,aM3,aM4 pM,aM4 (rO z),aM4 (s7 pM)]
  rw[AB hst,show ((j:Int)+1)=((j+1:Nat):Int) by omega,a5m D hv m (j+1) _ _ pM aPA,aNm z,aNd];rfl
noncomputable def Q5 (c:C4):List yG×Int:=if EK c=true then(zy c,0) else([],1)
def aIH {c:C4}(D:Q4 c):KO c=some (Q5 c):=by
 unfold KO Q5;rw[aGq (a5j D.1),aM3];cases hv:EK c with
 |false=>rfl
 |true=>
  have F:=D.fld.1;have h8:=D.n8;have z:=yB (f:=KN c) (l:=c.2.2.1) (λj b=>(j,b)) (λb=>b) (λf=>[uA 3 [] f.1 f.2.1]) (M:=10000) (λi h b G=>by
   unfold KN;dsimp only;rw[jc h,aM4 (sI h),aM4 (rO h),EP pM,aM3,aM4 (s7 pM)];rfl) (λb=>by
   unfold KN;dsimp only;rw[aM9 (sO _)]) (EQ c) (by
    have:=BF (l:=c.2.2.1) (h:=λf=>[uA 3 [] f.1 f.2.1]) (B:=1) (λ_ _=>by simp);unfold EQ;simp only[aM5,aM8];omega)
  have E:=a5l D hv c.2.2.2.1.length 0 [] (EQ c++c.2.2.1.map λf=>uA 3 [] f.1 f.2.1) pM (by
   rw[aM7,aN9];unfold EQ;simp only[aM5,aM8];have:=aOb 50007000 h8;omega)
  rw[aNG] at E;rw[IN] at z;rw[aM9 (show¬(!true)=true by decide),aM4 rfl];unfold rA;rw[EP pO,aM3,a5e D.com,aM3,EP pO,aM3];rw[show rC (KN c) ((0:Int),((([]:List yG)++([(((1:Int),(([]:pI),(([]:pI),()))),(c.1,(false,())))]:List yG))++([(((2:Int),(([]:pI),(([]:pI),()))),(FK c.2.1,(false,())))]:List yG)))=_ from z,aM3];rw[show rC (GD c) (([]:pI),(0:Int),EQ c++c.2.2.1.map λf=>uA 3 [] f.1 f.2.1)=_ from E,aM3];rfl
def aII {c:C4}(D:Q4 c):TW c=some (Q5 c):=by
 unfold TW Q5;rw[aGt (a5j D.1),aM3];cases hv:EK c with
 |false=>rfl
 |true=>
  have G:=D.fld.1;have h8:=D.n8;have z:=yB (f:=KM c) (l:=c.2.2.1) (λj b=>(b,j)) (λb=>b) (λf=>[uA 3 [] f.1 f.2.1]) (M:=10000) (λi h b F=>by
   unfold KM;dsimp only;rw[jc h,aM4 (sI h),aM4 (rO h),aM4 (rO h),aM4 (by simp only[aM5,aM8] at F|-;omega),aM4 (s7 pM)];rfl) (λb=>by
   unfold KM;dsimp only;rw[aM9 (sO _)]) (EQ c) (by
    have:=BF (l:=c.2.2.1) (h:=λf=>[uA 3 [] f.1 f.2.1]) (B:=1) (λ_ _=>by simp);unfold EQ;simp only[aM5,aM8];omega)
  have E:=a5m D hv c.2.2.2.1.length 0 [] (EQ c++c.2.2.1.map λf=>uA 3 [] f.1 f.2.1) pM (by
   rw[aM7,aN9];unfold EQ;simp only[aM5,aM8];have:=aOb 50007000 h8;omega)
  rw[aNG] at E;rw[IN] at z;rw[aM9 (show¬(!true)=true by decide),aM4 rfl];unfold rA;rw[a5f D.com,aM3];rw[show rC (KM c) (([(((1:Int),(([]:pI),(([]:pI),()))),(c.1,(false,()))),(((2:Int),(([]:pI),(([]:pI),()))),(FK c.2.1,(false,())))]:List yG),(0:Int))=_ from z,aM3];rw[show rC (GB c) ((EQ c++c.2.2.1.map λf=>uA 3 [] f.1 f.2.1),([]:pI),(0:Int))=_ from E,aM3];rfl
def aIJ {c:C4}(j:Q4 c):(zy c).length<=400070000:=by
 have F:=j.fld.1;have E:=a5k (B:=50007000) (l:=c.2.2.2.1) (before:=[]) λx z b=>zx (j.ent x z) b;have D:=aOb 50007000 j.n8;unfold zy EQ;simp only[aM7,aN9,aM5,aM8];omega
def aIK {c:C4}(j:Q4 c):(Q5 c).1.length<=400070000:=by
 unfold Q5;split
 .exact aIJ j
 simp
def aIL {c:C4}(E:XN c) (D:c.2.2.2.1.length<=uG): ∃b,SO c=some b/\(b=true->Q4 c):=by
 obtain⟨b,hb,hf⟩:=aGv E;unfold uG at D;have h:=yZ (f:=O9 c) (l:=c.2.2.2.1) (λx=>decide ((300:Int)<(x.2.2.1.length:Int))) (λ_=>false) (λi hi=>by
  unfold O9;have j:qG ((i:Int)+1):=by unfold qG;omega
  rw[aM4 (sI hi),aM4 (rO hi),zz hi];simp only[aM4 j]) (by
  unfold O9;rw[aM9 (sO _)])
 unfold SO;rw[h,hb,BD];split
 .exact⟨false,rfl,λh=>by cases h⟩
 refine⟨b&&decide ((c.2.2.2.1.length:Int)<=8),rfl,λz=>?_⟩;simp only[aNf,aNj] at z;exact⟨hf z.1,pM⟩
def aIM {l:List yG}(h:l.length<=1000000000):HK l l=some true:=by
 have j:=yZ (f:=MX l l) (l:=l) (λ_=>false) (λ_=>false) (λi hi=>by
  unfold MX;rw[aM4 (sI hi),aM4 (rO hi),aM4 (rO hi),aM4 (s7 pM)];simp) (by
  unfold MX;rw[aM9 (sO _)])
 unfold HK;rw[aM9 pO,j,wv];simp
def aIN:TY=some true:=by kernel_rfl
def aIO {c:C4}(F:XN c) (E:c.2.2.2.1.length<=uG) (s:pI):PD c s=some true:=by
 obtain⟨b,I,G⟩:=aIL F E;unfold PD;rw[aIN,aM3,aM9 (show¬(!true)=true by decide),I,aM3];by_cases hb:((!b)||((300:Int)<(s.length:Int)))=true
 .rw[aM4 hb]
 rw[aM9 hb];have z:b=true:=by
  cases b with
  |true=>rfl
  |false=>exact absurd rfl hb
 have j:=G z;obtain⟨m,m1,m2,_⟩:=a4J s;have D:=aIM (l:=(Q5 c).1) (by have:=aIK j;omega);rw[aIH j,aII j,aM3,aM3,D,m1,m2,aM4 (λ_=>uH _),aM4 (λ_=>uH _),aM4 (λ_=>uH _),uB,uB];simp
end Go.Proofs.YtedimeeleabhnaaGreatDoor
namespace Go.Proofs.YtedimeeleabhnaaGreatDoor
open Go.ChangeShapes Go.WideShapes Go.ChangeAt Go.RowKit
section
variable {H:Type}{enc:TypeId×pZ->H}{P:Program}
theorem aIP (hl:laidOutB P=true) {W W':pY}(hb:Below W.heap.size W W'):
  ∀{ts:List TypeId}{vs:pU}{ds:List (DataW H)}{ps:List MemPlace},(∀t∈ts,P.readableRec t=true/\t<P.types.size)->
  DataW.TrodAll enc P W 0 (λ_=>true) true ts vs ds ps->(∀x∈ps,x.block<W.heap.size)->
  DataW.TrodAll enc P W' 0 (λb=>decide (b<W.heap.size)) true ts vs ds ps:=by
 intro ts
 induction ts with
 |nil=>
  intro vs ds ps _ h _;obtain⟨rfl,rfl,rfl⟩:=trodAll_nil h;exact trodAll_mk0
 |cons t ts ih=>
  intro vs ds ps hr h hlt;obtain⟨v,vs',d,ds',p,q,rfl,rfl,rfl,h0,r0⟩:=trodAll_cons h;exact trodAll_cons_mk (Below.trod hl (hr t pO).1 (hr t pO).2 h0 hb (λx hx=>hlt x (by simp [hx]))) (ih (λt' ht'=>hr t' (by simp [ht'])) r0 (λx hx=>hlt x (by simp [hx])))
theorem aIQ {f:Func}{s:ChangeSpec}{W W':pY}{args:Array pZ}{ds gs:List (DataW H)}{before:List MemPlace}{tb:TypeId}
  (hl:laidOutB P=true) (hr: ∀t∈f.params.toList,P.readableRec t=true/\t<P.types.size)
  (hW:DataW.Whole enc P f.params.toList s.vars false W args.toList ds gs before) (hv:s.vars=[])
  (hfn:s.fn H ds={results:=[.lit (.bool true)],args:=ds}) (hrt:f.resultTypes= #[tb]) (htb:P.underlying tb=some .bool)
  (hb:Below W.heap.size W W'):s.post enc P f false true false false W args (.bool true) W':=by
 have hW':=hW;obtain⟨p,q,hA,hV,rfl,hfz,hnd⟩:=hW;rw[hv] at hV;obtain⟨rfl,rfl⟩:=trodVars_none hV;have hlt: ∀x∈p,x.block<W.heap.size:=λx hx=>by simpa using hW'.lt x (by simp [hx])
 refine⟨ds,[],p++[],[],p,[],hW',?_,?_,?_,hb.frame _,λh=>by cases h⟩
 .rw[List.append_nil,hfn,hrt];exact trodAll_mk1 (shut_bool htb true)
 .rw[List.append_nil,hfn];exact aIP hl hb hr hA hlt
 rw[hv,List.append_nil,hfn];rfl
end
section
variable {H:Type}{enc:TypeId×pZ->H}
theorem aIR {C:Checked}{f:FuncId}{fn:Func}{s:ChangeSpec}{tb:TypeId}{GR:List (String×DataW Unit)}(own:ownKnob C.prog.godebug=none) {os:Os}(started:os.Started) (F:Stop.Interp)
  (noInit:C.prog.inits.idxOf? f=none) (hfn:C.prog.funcs[f]? =some fn)
  (hl:laidOutB C.prog=true) (hr: ∀t∈fn.params.toList,C.prog.readableRec t=true/\t<C.prog.types.size) (hv:s.vars=[])
  (hrt:fn.resultTypes= #[tb]) (htb:C.prog.underlying tb=some .bool)
  (hspec: ∀(ds:List (DataW H)) (W:pY) (args:Array pZ) ps,DataW.TrodAll enc C.prog W 0 (λ_=>true) true fn.params.toList args.toList ds ps->s.fn H ds={results:=[.lit (.bool true)],args:=ds})
  (witness: ∃(w:pY) (tape:Tape) (i:Input),w.os=os/\(w.forCall tape i).Shaped C.prog/\i.vars=[]/\Input.okWide C.prog (w.forCall tape i) .any w.heap.size f i/\
   (OpenSpec.ofChange s).preRow enc C.prog fn [] false GR (w.forCall tape i).memory i.args/\Assume.holds {} C.prog (lone (Frame.enter C.prog f i.args .normal) [] (w.forCall tape i)))
  (contract: ∀(W:pY) (base:Nat) (args:Array pZ) (ds:List (DataW H)) (ps:List MemPlace),
   (∀(j:Nat) t v,fn.params[j]? =some t->args[j]? =some v->Value.okWide C.prog W .any base t v)->
   DataW.TrodAll enc C.prog W 0 (λ_=>true) true fn.params.toList args.toList ds ps->
   (∀x∈ps,x.block<W.heap.size)->(DataW.weightsEach C.prog fn.params.toList ds).all (·<=reachBytes)=true->laidMetH C.prog GR W->W.ShapedOpen C.prog->
   Calls C.prog f args W λe W'=>e= .returned (.bool true)/\Below W.heap.size W W'):
  ReturnsInHanded {} C os f .any ((OpenSpec.ofChange s).preRow enc C.prog fn [] false GR) (s.post enc C.prog fn false true false false):=by
 refine returnsInHanded_of_row (C:=C) (s:=OpenSpec.ofChange s) (F:=F) own started noInit hfn witness ?_;intro W base args ds gs before hval hW _ _ hsz hL hsh _;have hW':=hW;obtain⟨p,q,hA,hV,rfl,hfz,hnd⟩:=hW;have hV':DataW.TrodVars enc C.prog W (λ_=>true) s.vars gs q:=hV;rw[hv] at hV';obtain⟨rfl,rfl⟩:=trodVars_none hV';have hlt: ∀x∈p,x.block<W.heap.size:=λx hx=>by simpa using hW'.lt x (by simp [hx])
 have hvt:(OpenSpec.ofChange s).bare.plain.varTypes C.prog=[]:=by
  simp [OpenSpec.ofChange,ChangeSpec.plain,hv];rfl
 rw[hvt,List.append_nil,List.append_nil] at hsz;refine(contract W base args ds p hval hA hlt hsz hL hsh).mono λe W' ⟨he,hb⟩=>?_;subst he;exact⟨_,rfl,aIQ hl hr hW' hv (hspec ds W args p hA) hrt htb hb⟩
end
end Go.Proofs.YtedimeeleabhnaaGreatDoor
namespace Go.Proofs.YtedimeeleabhnaaGreatDoor
open Go.Shelf Go.Lib
open Vc
theorem aIS:(Rows.laid_unicode_utf8_first:DataW Unit)=Lib.firstData:=by kernel_rfl
theorem aIT:(Rows.laid_unicode_utf8_acceptRanges:DataW Unit)=Lib.acceptData:=by kernel_rfl
theorem aIU:(Rows.laid_internal_strconv_uint64pow10:DataW Unit)=Lib.tabData .u64 Lib.pow10Tab:=by kernel_rfl
def a5n:pT:=[0,1,56,2,57,49,28,3,61,58,42,50,38,29,17,4,62,47,59,36,45,43,51,22,53,39,33,30,24,18,12,5,63,55,48,27,60,41,37,16,46,35,44,21,52,32,23,11,54,26,40,15,34,20,31,10,25,14,19,9,13,8,7,6]
theorem aIV:(Rows.laid_math_bits_deBruijn64tab:DataW Unit)=Lib.tabData .u8 a5n:=by kernel_rfl
theorem aIW {P:Program}{w:pY}{g:Nat}{t:TypeId}{k:IntKind}{zero:Array pZ}(h:w.ShapedOpen P) (hg:g<P.globals.size)
  (h0:((begin P (λ_ _=>0) default).world.heap[g]?).bind Obj.row? =some (zero,t)) (hz:zero.size=1)
  (hb:P.buildable t=true) (hc:P.cellTypes P.depth t=some [t]) (hu:P.underlying t=some (.int k)): ∃m,w.cell? ⟨g,0,none⟩=some (.int k m):=by
 obtain⟨cs,hh,hs,hr⟩:=h.1 g zero t hg h0;obtain⟨ts,hts,_,hall⟩:=hr hb;rw[hc] at hts;cases hts;have h1:0<cs.size:=by omega
 obtain⟨u,hu',hok⟩:=hall 0 cs[0] (by simp [h1]);have:u=t:=by simpa using hu'.symm
 subst this;have hcell:w.cell? ⟨g,0,none⟩=some cs[0]:=by simp [World.cell?,hh,h1]
 rw[hcell];unfold Cell.ok at hok;rw[hu] at hok;cases hv:cs[0]<;>rw[hv] at hok<;>simp at hok
 rename_i k' m;exact⟨m,by rw[hok.1]⟩
theorem aIX {W:pY}(hsh:W.ShapedOpen Tryz.prog): ∃m,W.cell? ⟨2,0,none⟩=some (.int .i64 m):=
 aIW (t:=3) (zero:= #[.int .i64 0]) hsh (aNV qA) qA rfl qA qA Tryz.underlying3
def aIY:Ren:=⟨λx=>x,λx=>if x=5 then 5 else if x=119 then 246 else if x=138 then 248 else 249,λx=>if x=3 then 0 else 1⟩
theorem aIZ {w:pY}{a:Addr}{v:pZ}(h:w.cell? a=some v):a.block<w.heap.size:=by
 unfold World.cell? at h;split at h
 .rename_i hb;exact(aNr.1 hb).1
 cases h
theorem aI0 {P:Program}{w:pY}{n:String}{g:Nat}{cs:Array pZ}(hg:P.globalNamed n=some g) (h:w.var? P n=some cs): ∃e fz,w.heap[g]? =some (.cells cs e fz):=by
 unfold World.var? at h;rw[hg,aM3] at h;split at h
 .rename_i cs' e fz hh;cases h;exact⟨e,fz,hh⟩
 cases h
theorem aI1 {W:pY}(hL:laidMet Tryz.prog Rows.reviseAtomsRow.laid W) (hsh:W.ShapedOpen Tryz.prog):IT W:=by
 obtain⟨m,hm⟩:=aIX hsh;have h0:=laidMet.reads hL (.tail _ (.head _));have hp:=laidMet.reads hL (.tail _ (.tail _ (.head _)));have h1:=laidMet.reads hL (.tail _ (.tail _ (.tail _ (.head _))));rw[aIU] at hp;have h2:=laidMet.reads hL (.tail _ (.tail _ (.tail _ (.tail _ (.head _)))));rw[aIV] at h0;rw[aIS] at h2;rw[aIT] at h1;have hU:Lib.Utf8Tabs 0 1 W:=utf8Tabs_of_readsT (ρ:=aIY) ⟨qA,qA,qA,qA⟩ ⟨qA,qA,qA,qA,qA,qA,qA⟩ h2 h1;have hT:W.cell? ⟨5,15,none⟩=some (.int .u8 4):=by
  obtain⟨g,t,cs,fuel,p,hg,ht,hv,hd⟩:=h0;have hg0:Tryz.prog.globalNamed "math/bits.deBruijn64tab" =some 5:=by kernel_rfl
  have ht0:(Tryz.prog.globals[5]?).map (·.type)=some 306:=by kernel_rfl
  obtain rfl:=aNa (hg0.symm.trans hg);obtain rfl:=aNa (ht0.symm.trans ht);have hc:=cells_of_tab Tryz.underlying306 Tryz.underlying5 qA qA hd;rw[World.var?_cell hg hv 15,<-aOx,hc];rfl
 have hP: ∃e fz,W.heap[3]? =some (.cells (Lib.pow10Tab.map λz=>Value.int .u64 z).toArray e fz):=by
  obtain⟨g,t,cs,fuel,p,hg,ht,hv,hd⟩:=hp;have hg0:Tryz.prog.globalNamed "internal/strconv.uint64pow10" =some 3:=by kernel_rfl
  have ht0:(Tryz.prog.globals[3]?).map (·.type)=some 293:=by kernel_rfl
  obtain rfl:=aNa (hg0.symm.trans hg);obtain rfl:=aNa (ht0.symm.trans ht);have hc:=cells_of_tab Tryz.underlying293 Tryz.underlying270 qA qA hd;rw[<-hc];exact aI0 hg hv
 refine⟨?_,hU,⟨m,hm⟩,λx hx=>?_,λx hx=>?_⟩
 .have b0:5<W.heap.size:=aIZ hT;obtain⟨e,fz,h⟩:=hP;have b1:3<W.heap.size:=(aNr.1 h).1;show 6<=W.heap.size;omega
 .unfold Ad at hx;obtain rfl:=aNn.1 hx;exact⟨pN,hT⟩
 unfold Ae at hx;obtain rfl:=aNn.1 hx;exact⟨pN,hP⟩
noncomputable def jd (os:Os):pY:=
 let w0:=World.holding Tryz.prog os ⟨#[],#[],[]⟩
 let tH (h:Array Obj) (g:Nat) (cs:Array pZ):Array Obj:=h.modify g fun
  | .cells _ t frozen=> .cells cs t frozen
  |o=>o
 let h1:=tH w0.heap 0 (Lib.firstTab.map λz=>Value.int .u8 z).toArray
 let h2:=tH h1 1 ((List.range 16).flatMap λi=>[Value.int .u8 (Lib.accLo i),Value.int .u8 (Lib.accHi i)]).toArray
 let h3:=tH h2 5 (a5n.map λz=>Value.int .u8 z).toArray
 let h4:=tH h3 4 (([0,1,28,2,29,14,24,3,30,22,20,15,25,17,4,8,31,27,13,23,21,19,16,7,26,12,18,6,11,5,10,9]:pT).map λz=>Value.int .u8 z).toArray
 let h5:=tH h4 3 ((List.range 20).map λi=>Value.int .u64 (10^i)).toArray
 {w0 with heap:=h5}
theorem aI2 (os:Os) (args:Array pZ):laidMet Tryz.prog Rows.reviseAtomsRow.laid ((jd os).forCall (λ_ _=>0) ⟨#[],args,[]⟩).memory:=
 (LaidIn.of_run [4,5,3,1,0] 8 qA qA qA qA:LaidIn Tryz.prog _ Rows.reviseAtomsRow.laid _).met
end Go.Proofs.YtedimeeleabhnaaGreatDoor
namespace Go.Proofs.YtedimeeleabhnaaGreatDoor
open Vc Go.RowKit
inductive Aa where
 |ty (t:TypeId) |fs (o:Nat) (l:List Field)
inductive yR (P:Program):Aa->Ty->Prop
 |bool {t}:P.underlying t=some .bool->yR P (.ty t) .bool
 |int {t k}:P.underlying t=some (.int k)->yR P (.ty t) (.int k)
 |str {t}:P.underlying t=some .string->yR P (.ty t) .str
 |list {t e u}:P.underlying t=some (.slice e)->P.cellsOf e=u.cells->0<u.cells->0<P.bytesOf e->yR P (.ty e) u->yR P (.ty t) (.list u)
 |struct {t fs ty}:ty.isRow=true->P.underlying t=some (.struct fs)->P.cellsOf t=ty.cells->yR P (.fs 0 fs.toList) ty->yR P (.ty t) ty
 |nil {o}:yR P (.fs o []) .unit
 |cons {o}{f:Field}{r a b}:f.offset=o->P.cellsOf f.type=a.cells->yR P (.ty f.type) a->yR P (.fs (o+a.cells) r) b->yR P (.fs o (f::r)) (.pair a b)
def Bd:(t:Ty)->t.den->Prop
 | .str,s=>List.length s<=140737488351232
 | .int k,n=>(Lit.int k n).wf=true
 | .list u,l=>List.length l<=140737488351232/\∀x:u.den,x∈(l:List u.den)->Bd u x
 | .pair a b,x=>Bd a x.1/\Bd b x.2
 |_,_=>True
def IS (w:pY):Gh:=⟨λb _=>b<w.heap.size,λ_=>none,λ_ _=>none⟩
theorem a5o {α:Type}{R:α->pU->Prop}{w:pY}{S:Nat->Nat->Prop}{c b:Nat}: ∀{l:List α}{o:Nat},(∀i x,l[i]? =some x->∃cs,cs.length=c/\w.rangeAt b (o+i*c) cs/\(∀j,j<c->S b (o+i*c+j))/\R x cs)->wA R w S c b o l
 |[],_,_=>trivial
 |x::l,o,h=>by
  refine⟨?_,a5o λi y hy=>?_⟩
  .obtain⟨cs,h1,h2,h3,h4⟩:=h 0 x rfl;exact⟨cs,h1,by simpa using h2,by simpa using h3,h4⟩
  obtain⟨cs,h1,h2,h3,h4⟩:=h (i+1) y (by simpa using hy);have e:o+(i+1)*c=o+c+i*c:=by rw[aN0];omega
  exact⟨cs,h1,by rw[<-e];exact h2,by rw[<-e];exact h3,h4⟩
section
variable {H:Type}{enc:TypeId×pZ->H}{P:Program}{W:pY}
theorem a5p {e:TypeId}: ∀{l:List (DataW H)}{i:Nat}{d:DataW H},l[i]? =some d->∀n∈d.weights P e,n∈DataW.weightsAll P e l
 |d0::l,0,d,h,n,hn=>by
  simp only[aNC,aM6] at h;subst h;simp only[DataW.weightsAll,aNU];exact .inl hn
 |d0::l,i+1,d,h,n,hn=>by
  simp only[aNP] at h;simp only[DataW.weightsAll,aNU];exact .inr (a5p h n hn)
 |[],_,_,h,_,_=>by simp at h
def aI3 (enc:TypeId×pZ->H) (P:Program) (W:pY):Aa->Ty->Prop
 | .ty t,u=> ∀(fuel:Nat) (cs:pU) (y:DataW H×List MemPlace),DataW.trod enc P W 0 (λ_=>true) true fuel t cs=some y->(∀n∈y.1.weights P t,n<=reachBytes)->∃x:u.den,Rd (IS W) W u x cs/\Bd u x
 | .fs o l,u=> ∀(fuel:Nat) (cs:pU) (xs:List (DataW H×List MemPlace)),cs.length=o+u.cells->xs.length=l.length->(∀(i:Nat) (f:Field),l[i]? =some f->DataW.trod enc P W 0 (λ_=>true) true fuel f.type ((cs.drop f.offset).take (P.cellsOf f.type))=xs[i]?)->(∀n∈DataW.weightsEach P (l.map (·.type)) (xs.map (·.1)),n<=reachBytes)->∃x:u.den,Rd (IS W) W u x (cs.drop o)/\Bd u x
theorem aI4 {e:TypeId}{u:Ty}{a:Addr}{len cap:Nat}(hc:P.cellsOf e=u.cells) (hpos:0<u.cells) (hcap:len<=cap)
  (each: ∀i,i<len->∃(cs:pU) (x:u.den),W.cells? 0 (a.add (i*u.cells)) u.cells=some cs/\Rd (IS W) W u x cs/\Bd u x):
  ∃l:List u.den,l.length=len/\Rd (IS W) W (.list u) l [.slice (some a) len cap]/\∀x∈l,Bd u x:=by
 have build: ∀k,k<=len->∃l:List u.den,l.length=k/\∀i x,l[i]? =some x->∃cs:pU,W.cells? 0 (a.add (i*u.cells)) u.cells=some cs/\Rd (IS W) W u x cs/\Bd u x:=by
  intro k
  induction k with
  |zero=>intro _;exact⟨[],rfl,λi x h=>by simp at h⟩
  |succ k ih=>
   intro hk;obtain⟨l,h1,h2⟩:=ih pM;obtain⟨cs,x,h3,h4⟩:=each k pM;refine⟨l++[x],by simp [h1],λi y hy=>?_⟩;rw[List.getElem?_append] at hy;split at hy
   .exact h2 i y hy
   rename_i hi;obtain⟨j,hj⟩: ∃j,i=l.length+j:=⟨i-l.length,pM⟩;subst hj;rw[aNM] at hy;cases j with
   |zero=>
    simp only[aNC,aM6] at hy;subst hy;exact⟨cs,by rw[aOd,h1];exact h3,h4⟩
   |succ j=>simp at hy
 obtain⟨l,hll,hle⟩:=build len (aNt _);refine⟨l,hll,?_,λx hx=>?_⟩
 .subst hll;by_cases hl0:l=[]
  .subst hl0;exact⟨some a,cap,rfl,hcap,.inl rfl⟩
  obtain⟨b,off,spot⟩:=a;have hlp:0<l.length:=aOP.2 hl0;have hspot:spot=none:=by
   obtain⟨cs,x,h3,_⟩:=each 0 hlp;have h4:=(World.cells?_some h3).2.2 0 hpos;have hlen0:=(World.cells?_some h3).2.1;rw[aNe pM] at h4;simpa[Addr.add] using World.cell?_spot h4
  subst hspot;refine⟨_,cap,rfl,hcap,.inr ⟨b,off,rfl,a5o λi x hx=>?_⟩⟩;obtain⟨cs,h3,h4,_⟩:=hle i x hx;obtain⟨_,h5,h6⟩:=World.cells?_some h3;have hcell: ∀j v,cs[j]? =some v->W.cell? ⟨b,off+i*u.cells+j,none⟩=some v:=by
   intro j v hv;have hj:j<u.cells:=by have:=(aNl.1 hv).1;omega
   have:=h6 j hj;rw[hv] at this;rw[Addr.add_lit,Addr.add_lit] at this;exact this
  refine⟨cs,h5,hcell,λj hj=>?_,h4⟩;exact Vc.md (hcell 0 _ (aNe pM))
 obtain⟨i,hi,he⟩:=aOC hx;obtain⟨cs,h3,h4,h5⟩:=hle i x (by rw[aNe hi,he]);exact h5
theorem aI5 {ix:Aa}{u:Ty}(h:yR P ix u):aI3 enc P W ix u:=by
 induction h with
 |bool ht=>
  intro fuel cs y hy _;obtain⟨b,rfl,_⟩:=DataW.trod_bool ht hy;exact⟨b,rfl,trivial⟩
 |int ht=>
  intro fuel cs y hy _;obtain⟨n,rfl,_,hw⟩:=DataW.trod_int ht hy;exact⟨n,rfl,hw⟩
 |str ht=>
  intro fuel cs y hy hw;obtain⟨s,rfl,rfl,_⟩:=DataW.trod_string ht hy;refine⟨s.data.toList,by show [Value.string s]=[Value.string ⟨s.data.toList.toArray⟩];rw[aOk],?_⟩;exact hw _ (by simp [DataW.weights])
 | @list t e u ht hc hpos hb _ ih=>
  intro fuel cs y hy hw;rcases DataW.trod_slice ht hy with⟨rfl,_⟩ |⟨a,len,cap,elems,rest,n,_,rfl,rfl,_,hl,_,hlen,hall,_,_⟩
  .exact⟨[],⟨none,0,rfl,aNt _,.inl rfl⟩,by simp,λx hx=>by cases hx⟩
  .have hws:DataW.weights P t (.slice (elems.map (·.1)) (rest.map (·.1)))=((elems.map (·.1)).length+(rest.map (·.1)).length)*P.bytesOf e::(DataW.weightsAll P e (elems.map (·.1))++DataW.weightsAll P e (rest.map (·.1))):=by
    simp [DataW.weights,ht]
   rw[hws] at hw;have hn:=hw _ aNq;obtain⟨l,h1,h2,h3⟩:=aI4 (W:=W) (a:=a) (cap:=cap) hc hpos hl λi hi=>by
    have h1:=hall i hi;rw[hc,aNe pM,Option.bind_eq_some_iff] at h1;obtain⟨cs,h2,h3⟩:=h1;obtain⟨x,hx⟩:=ih n cs _ h3 λm hm=>hw m (by
     refine aNp _ (aNU.2 (.inl (a5p (i:=i) ?_ m hm)));rw[List.getElem?_map,aNe pM];rfl)
    exact⟨cs,x,h2,hx⟩
   refine⟨l,h2,?_,h3⟩;have:elems.length<=(elems.length+rest.length)*P.bytesOf e:=by
    calc elems.length<=(elems.length+rest.length)*1:=by omega
     _<=_:=Nat.mul_le_mul_left _ hb
   simp only[aN9] at hn;have hr:reachBytes=140737488351232:=rfl;show l.length<=_;omega
 |struct hrow ht hcl _ ih=>
  intro fuel cs y hy hw;obtain⟨xs,n,rfl,rfl,hl,hlen,hf⟩:=DataW.trod_struct ht hy;have:=ih n cs xs (by rw[hl,hcl];omega) (by rw[hlen];simp) (λi f hi=>hf i f (by simpa using hi)) λm hm=>hw m (by simpa[DataW.weights,ht] using hm);rwa [aNG] at this
 |nil=>
  intro fuel cs xs hl _ _ _;refine⟨(),?_,trivial⟩;show cs.drop _=[];exact List.drop_of_length_le (by simp [Ty.cells] at hl;omega)
 | @cons o f r a b ho hc _ _ iha ihb=>
  intro fuel cs xs hl hx hf hw;cases xs with
  |nil=>simp at hx
  |cons x0 xs=>
   have h0:=hf 0 f rfl;rw[hc,ho] at h0;obtain⟨xa,ra,ba⟩:=iha fuel _ x0 h0 λm hm=>hw m (by simp only[aN8,DataW.weightsEach,aNU];exact .inl hm);obtain⟨xb,rb,bb⟩:=ihb fuel cs xs (by simp only[Ty.cells] at hl;omega) (by simpa using hx) (λi f' hi=>by have:=hf (i+1) f' (by simpa using hi);simpa using this) λm hm=>hw m (by simp only[aN8,DataW.weightsEach,aNU];exact .inr hm);refine⟨(xa,xb),⟨_,_,(aOK a.cells (cs.drop o)).symm,ra,?_⟩,ba,bb⟩;rw[aOa];exact rb
theorem a5q {t:TypeId}{u:Ty}{base:Nat}{v:pZ}{d:DataW H}{ps:List MemPlace}(h:yR P (.ty t) u) (hok:Value.okWide P W .any base t v) (hT:DataW.Trod enc P W 0 (λ_=>true) true t v d ps) (hw: ∀n∈d.weights P t,n<=reachBytes): ∃x:u.den,sR (IS W) W u x v/\Bd u x:=by
 obtain⟨fuel,hf⟩:=hT;obtain⟨x,hx,hb⟩:=aI5 (enc:=enc) (W:=W) h fuel _ _ hf hw;refine⟨x,?_,hb⟩;cases h with
 |bool ht=>obtain⟨b,rfl⟩:=Go.WideShapes.okWide_bool ht hok;exact .inr ⟨rfl,hx⟩
 |int ht=>obtain⟨b,rfl⟩:=Go.WideShapes.okWide_int ht hok;exact .inr ⟨rfl,hx⟩
 |str ht=>obtain⟨b,rfl⟩:=Go.WideShapes.okWide_string ht hok;exact .inr ⟨rfl,hx⟩
 |list ht=>obtain⟨a,l,c,rfl⟩:=Go.WideShapes.okWide_slice ht hok;exact .inr ⟨rfl,hx⟩
 |struct hrow ht=>obtain⟨cs,rfl,_⟩:=Go.WideShapes.okWide_struct ht hok;exact .inl ⟨hrow,cs.toList,by rw[aOk],hx⟩
end
end Go.Proofs.YtedimeeleabhnaaGreatDoor
namespace Go.Proofs.YtedimeeleabhnaaGreatDoor
open Vc
open Go.ChangeShapes Go.WideShapes Go.ChangeAt Go.RowKit
theorem L8:yR Tryz.prog (.ty 9) .str:= .str Tryz.underlying9
theorem Ab:yR Tryz.prog (.ty 22) (.list .str):= .list Tryz.underlying22 qA pN (aNV qA) L8
theorem aI6:yR Tryz.prog (.ty 58) (.pair .str (.pair .str .unit)):=by
 refine .struct rfl Tryz.underlying58 qA ?_;exact .cons rfl qA L8 (.cons rfl qA L8 .nil)
theorem a5r:yR Tryz.prog (.ty 23) (.list (.pair .str (.pair .str .unit))):= .list Tryz.underlying23 qA pN (aNV qA) aI6
theorem aI7:yR Tryz.prog (.ty 51) tJ:=by
 refine .struct rfl Tryz.underlying51 qA ?_;exact .cons rfl qA L8 (.cons rfl qA L8 (.cons rfl qA L8 (.cons rfl qA Ab (.cons rfl qA Ab (.cons rfl qA (.int Tryz.underlying3) (.cons rfl qA a5r .nil))))))
theorem aI8:yR Tryz.prog (.ty 24) (.list tJ):= .list Tryz.underlying24 qA pN (aNV qA) aI7
theorem aI9:yR Tryz.prog (.ty 26) wE:=by
 refine .struct rfl Tryz.underlying26 qA ?_;exact .cons rfl qA L8 (.cons rfl qA Ab (.cons rfl qA a5r (.cons rfl qA aI8 .nil)))
theorem aJa {x:y9}(h:Bd tJ x):xe x:=by
 obtain⟨h1,h2,h3,⟨h4,k4⟩,⟨h5,k5⟩,_,⟨h7,k7⟩,_⟩:=h;exact⟨h1,h2,h3,⟨h4,k4⟩,⟨h5,k5⟩,h7,λy hy=>⟨(k7 y hy).1,(k7 y hy).2.1⟩⟩
theorem aJb {c:C4}(h:Bd wE c):XN c:=by
 obtain⟨h1,⟨h2,k2⟩,⟨h3,k3⟩,⟨h4,k4⟩,_⟩:=h;exact⟨h1,⟨h2,k2⟩,⟨h3,λy hy=>⟨(k3 y hy).1,(k3 y hy).2.1⟩⟩,λx hx=>aJa (k4 x hx)⟩
theorem aJc {W:pY}(hT:IT W) (v:pZ) (c:C4) (u:pZ) (s:pI) (hv:sR (IS W) W wE c v) (hu:sR (IS W) W .str s u) (hB:Bd wE c):
  Calls Tryz.prog 3 #[v,u] W λe W'=>e= .returned (.bool true)/\Below W.heap.size W W':=by
 have hC:wk (fg c s) wj=some (XF c s):=aFV _ _;have ht:=aIO (aJb hB) hB.2.2.2.1.1 s;refine(aFX.1.2 (IS W) W (fg c s) [v,u] [] _ ⟨(λi b h=>by cases h),(λi j bi bj b o _ h=>by cases h),λb o h=>h,hT,(λi blk b o h=>by cases h)⟩ ⟨v,[u],rfl,⟨hv,trivial⟩,u,[],rfl,⟨hu,trivial⟩,rfl⟩ hC ?_).mono λe W' ⟨v,g',he,r⟩=>?_
 .intro p hp;have:p=((PD c s).isSome=true):=by simpa[XF] using hp
  rw[this,ht];rfl
 have hv:v= .bool true:=by
  have h1:=r.ret;unfold XF at h1;rw[ht] at h1;exact vO h1.1
 subst hv;exact⟨he,⟨r.fr.os,r.fr.tape,r.fr.output,r.fr.size,λk hk=>r.fr.blk k hk (λo ⟨i,blk,hi,_⟩=>by cases hi)⟩⟩
end Go.Proofs.YtedimeeleabhnaaGreatDoor
namespace Go.Proofs.YtedimeeleabhnaaGreatDoor
open Go.ChangeShapes Go.WideShapes Go.ChangeAt Go.RowKit Go.Lib
theorem aJd:(Rows.reviseAtomsRow.inPlace==Tryz.prog.inPlace 3)=true:=by kernel_rfl
theorem aJe:(Rows.reviseAtomsRow.unfollowed==Tryz.prog.unfollowed 3)=true:=by kernel_rfl
theorem aJf:(Rows.reviseAtomsRow.recurses==Tryz.prog.recurses 3)=true:=by kernel_rfl
theorem aJg:(Rows.reviseAtomsRow.named==Tryz.prog.varsNamed 3)=true:=by kernel_rfl
theorem aJh:joinedFacts Tryz.prog 3 Tryz.f3 Rows.reviseAtomsSpec Rows.reviseAtomsRow=true:=by
 unfold joinedFacts;rw[aJd,aJe,aJf,aJg]
 kernel_rfl
namespace reviseAtomsLaw
theorem own:ownKnob Tryz.prog.godebug=none:=by kernel_rfl
theorem GR:laidOutB Tryz.prog=true:=by kernel_rfl
theorem aJi:Tryz.prog.readableRec 26=true:=by kernel_rfl
theorem ltC:26<Tryz.prog.types.size:=aNV qA
theorem aJk:Tryz.prog.readableRec 9=true:=by kernel_rfl
theorem ltS:9<Tryz.prog.types.size:=aNV qA
def Y9:pZ:= .agg #[.string ⟨#[]⟩,.slice none 0 0,.slice none 0 0,.slice none 0 0]
theorem aJm (os:Os) {H:Type}(enc:TypeId×pZ->H):
  (OpenSpec.ofChange Rows.reviseAtomsSpec).preRow enc Tryz.prog Tryz.f3 [] false Rows.reviseAtomsRow.laid ((jd os).forCall (λ_ _=>0) ⟨#[],#[Y9,.string ⟨#[]⟩],[]⟩).memory #[Y9,.string ⟨#[]⟩]:=by
 have hw:(DataW.whole enc Tryz.prog ((jd os).forCall (λ_ _=>0) ⟨#[],#[Y9,.string ⟨#[]⟩],[]⟩).memory Tryz.f3.params.toList (OpenSpec.ofChange Rows.reviseAtomsSpec).vars false #[Y9,.string ⟨#[]⟩].toList 8).map (λx=>(x.1,x.2.1))=
   some ([.agg [.lit (.string []),.nil,.nil,.nil],.lit (.string [])],[]):=by kernel_rfl
 obtain⟨⟨x1,x2,x3⟩,hx,hx1⟩:=aNh.1 hw;simp only[aNA] at hx1;obtain⟨rfl,rfl⟩:=hx1;exact OpenSpec.preRow_of_cond 8 hx qA (λk hk=>by cases hk) qA (aI2 os _)
theorem lifted (os:Os) (started:os.Started) (H:Type) (enc:TypeId×pZ->H) (F:Stop.Interp):
  ReturnsInHanded {} Tryz.checked os 3 .any ((OpenSpec.ofChange Rows.reviseAtomsSpec).preRow enc Tryz.prog Tryz.f3 [] false Rows.reviseAtomsRow.laid) (Rows.reviseAtomsSpec.post enc Tryz.prog Tryz.f3 false true false false):=by
 refine aIR (C:=Tryz.checked) (tb:=4) own started F qA Tryz.func3 GR ?_ rfl rfl Tryz.underlying4 ?_
  (witness_row_atRef (enc:=enc) (C:=Tryz.checked) false (jd os) #[Y9,.string ⟨#[]⟩] rfl qA qA qA (aJm os enc)) ?_
 .intro t ht;rw[Tryz.params3] at ht;simp only[aNk,aOq,or_false] at ht;rcases ht with rfl|rfl
  .exact⟨aJi,ltC⟩
  exact⟨aJk,ltS⟩
 .intro ds W args ps h;have h':DataW.TrodAll enc Tryz.prog W 0 (λ_=>true) true Tryz.f3.params.toList args.toList ds ps:=h;rw[Tryz.params3] at h';obtain⟨v0,v1,d0,d1,p0,p1,rfl,rfl,rfl,h0,h1⟩:=trodAll_two h';rfl
 intro W base args ds ps hval0 hA0 hlt hsz0 hL hsh;have hval: ∀(j:Nat) t v,Tryz.f3.params[j]? =some t->args[j]? =some v->Value.okWide Tryz.prog W .any base t v:=hval0;have hA:DataW.TrodAll enc Tryz.prog W 0 (λ_=>true) true Tryz.f3.params.toList args.toList ds ps:=hA0;have hsz:(DataW.weightsEach Tryz.prog Tryz.f3.params.toList ds).all (·<=reachBytes)=true:=hsz0;rw[Tryz.params3] at hA hval hsz;obtain⟨v0,v1,d0,d1,p0,p1,rfl,rfl,rfl,h0,h1⟩:=trodAll_two hA;obtain⟨c,hv,hB⟩:=a5q aI9 (hval 0 26 v0 rfl rfl) h0 (λn hn=>by
  have:=aN4.1 hsz n (DataW.weights_mem_each (j:=0) rfl rfl n hn);simpa using this)
 obtain⟨s,hu,_⟩:=a5q L8 (hval 1 9 v1 rfl rfl) h1 (λn hn=>by
  have:=aN4.1 hsz n (DataW.weights_mem_each (j:=1) rfl rfl n hn);simpa using this)
 exact aJc (aI1 hL hsh) v0 c v1 s hv hu hB
end reviseAtomsLaw
theorem a5s:Rows.ReviseAtomsSaid:=
 OpenClaim.holds_of_wide 3 Tryz.f3 rfl rfl rfl rfl rfl rfl rfl ⟨rfl,rfl,rfl,rfl,rfl⟩ rfl rfl rfl rfl rfl qA Tryz.func3 aJh
  (aNV qA) (by unfold Func.isWrapper;first|(rw[aM4 (by decide+kernel)];kernel_rfl) |(rw[aM9 (by decide+kernel)];exact⟨rfl,rfl⟩))
  (λos started H enc _=>by rw[OpenClaim.pre_eq_preRow];exact reviseAtomsLaw.lifted os started H enc (λ_ _ _=>0))
#print axioms a5s
end Go.Proofs.YtedimeeleabhnaaGreatDoor
namespace Go.Proofs.YtedimeeleabhnaaGreatDoor
open Go
theorem aJn:Rows.reviseAtomsRow.wfByText (OpenSpec.ofChange Rows.reviseAtomsSpec)=true:=by kernel_rfl
theorem aJo:Tryz.prog.mainIs=some (true, "9011cd62ecf000981dcc54e00db774e6eb98add8cd041cfea77abe0e6c809ef6".toList):=by kernel_rfl
theorem aJp:false=Tryz.prog.looks []:=by kernel_rfl
theorem aJq:false=Rows.reviseAtomsRow.goesBy Tryz.prog:=by kernel_rfl
theorem aJr:Tryz.prog.funcNamed "calque/calquelaw48.ReviseAtoms" =some 3:=by kernel_rfl
theorem aJs:([26,9].all λu=> !Tryz.prog.wantsStandIn u)=true:=by kernel_rfl
theorem reviseAtomsCard_holds:Rows.ReviseAtomsCardSaid:=
 Claim7.holds_tied_plain_at .later [] [.data,.data,.data,.data,.pinned] true (true, "9011cd62ecf000981dcc54e00db774e6eb98add8cd041cfea77abe0e6c809ef6") false
  a5s (λ_ h=>by cases h) aJn (λ_ h=>by cases h) reviseAtoms_row_tie rfl ⟨rfl,rfl⟩ aJo rfl
  (λf fn hf hfn=>by
   obtain rfl:f=3:=aNa (aJr.symm.trans hf) |>.symm
   obtain rfl:fn=Tryz.f3:=(aNa (Tryz.func3.symm.trans hfn)).symm;exact⟨aJp,λj t ht=>by
    rw[Tryz.params3] at ht;have hm:t∈[26,9]:=by simpa using Array.mem_of_getElem? ht
    exact(show Tryz.prog.wantsStandIn t=false by simpa using aN4.1 aJs t hm)⟩)
  aJq
#print axioms reviseAtomsCard_holds
end Go.Proofs.YtedimeeleabhnaaGreatDoor
