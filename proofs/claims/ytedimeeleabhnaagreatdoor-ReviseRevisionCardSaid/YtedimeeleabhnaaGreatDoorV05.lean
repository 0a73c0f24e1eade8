/- ReviseRevision returns true for any two catalogs (revise.Revision agrees with the reference): the tied card of the statement, over the row's statement. No condition. -/
import Derived.Deep.CondSized
import Derived.Deep.DeepHandedRow
import Derived.Deep.DeepWitnessRowRef
import Derived.Lib.ItoaLen
import Derived.Lib.ItoaMem
import Derived.Lib.LaidIn
import Derived.Lib.LaidTab
import Derived.Lib.LaidU8T
import Derived.OpenShut
import Derived.ProofKit
import Derived.SevenTiedAt
import Derived.SizedLaws
import Derived.Test.YtedimeeleabhnaaGreatDoorCards
import Derived.Test.YtedimeeleabhnaaGreatDoorRows
import Derived.Test.YtedimeeleabhnaaGreatDoorTie
import Derived.WalkKit
import Derived.Test.YtedimeeleabhnaaGreatDoorV04a
set_option linter.all false
set_option maxRecDepth 100000
set_option maxHeartbeats 4000000
namespace Go.Proofs.YtedimeeleabhnaaGreatDoor
open Vc
mutual
def QK (R:pK):qG->pK
 | .mk k _ n _ cs ps=>if k=11 then AC R ps else if n=[] then(if 7<=k/\k<=9 then CD R cs else R) else wO (if 7<=k/\k<=9 then CD R cs else R) n
termination_by p=>SizeOf.sizeOf p
def AC (R:pK):List qG->pK
 |[]=>R
 |p::l=>AC (QK R p) l
termination_by l=>SizeOf.sizeOf l
def CD (R:pK):List (pJ×List qG×Unit)->pK
 |[]=>R
 |(_,ps,_)::l=>CD (AC R ps) l
termination_by l=>SizeOf.sizeOf l
end
def a48 {R:List rW}{k:Int}{t n st:pJ}{cs:List rO}{ps:List qG}:QK R (.mk k t n st cs ps)=if k=11 then AC R ps else if n=[] then(if 7<=k/\k<=9 then CD R cs else R) else wO (if 7<=k/\k<=9 then CD R cs else R) n:=by rw[QK]
def a49 {R:List rW}:AC R []=R:=by rw[AC]
def a5a {R:List rW}{p:qG}{l:List qG}:AC R (p::l)=AC (QK R p) l:=by rw[AC]
def aJs {R:List rW}:CD R []=R:=by rw[CD]
def aJt {R:List rW}{x:rO}{l:List rO}:CD R (x::l)=CD (AC R x.2.1) l:=by obtain⟨a,b,u⟩:=x;rw[CD]
abbrev ja:Type:=Nm->List qG->Int->Bool->Option (Bool×Nm)
def YC (GP:ja) (D d:Nat) (ps:List qG):Prop:= ∀(R:List rW) (c:Bool),∃m',GP (s7 R) ps (D:Int) c=some (tS d c false ps,m')/\(tS d c false ps=true->m'=s7 (AC R ps))
section
variable {GP:ja}{k:Int}{t n st:pJ}{cs:List rO}{ps:List qG}
def a5b {D d:Nat}{c:Bool}(E: ∀x∈cs,YC GP D d x.2.1) (G:wC cs<=1000000000):
  ∀(m j:Nat) (R keys:List rW),j+m=cs.length->∃w,rC (IF (k,(t,(n,(st,(cs,(ps,())))))) (D:Int) c GP) ((j:Int),s7 R,s7 keys)=some w/\
   (if yJ k d (c|| !decide (k=9)) keys (cs.drop j)=true then w= .inl (s7 (CD R (cs.drop j)),s7 (keys++(cs.drop j).map (·.1))) else∃m',w= .inr (false,m'))
 |0,j,R,keys,K=>by
  have:j=cs.length:=by omega
  subst this;refine⟨.inl (s7 R,s7 keys),?_,?_⟩
  .rw[sZ];unfold IF;dsimp only;rw[aOi (sL _)];rfl
  .rw[aOQ,a41,aJs,aOd rfl];simp
 |m+1,j,R,keys,K=>by
  have z:j<cs.length:=by omega
  have Q:=yI (aOm z);have U:=BL cs;obtain⟨m',O,M⟩:=E _ (aOm z) R (c|| !decide (k=9))
  rw[aOx z,Ac,sZ];have I:IF (k,(t,(n,(st,(cs,(ps,())))))) (D:Int) c GP ((j:Int),s7 R,s7 keys)=
    if (tN k cs[j].1&& !decide (cs[j].1∈keys))=true then(if tS d (c|| !decide (k=9)) false cs[j].2.1=true then some (.inl ((j:Int)+1,m',s7 (keys++[cs[j].1]))) else some (.inr (.inr (false,m')))) else some (.inr (.inr (false,s7 R))):=by
   unfold IF;dsimp only;rw[uX (t:=rV) z,aOd (sG z),aOd (rP z),gy _ _ aQT,aOc,LH];cases hk:(tN k cs[j].1&& !decide (cs[j].1∈keys)) with
   |false=>
    have e:((!tN k cs[j].1||decide (cs[j].1∈keys))==false)=false:=by
     revert hk;cases tN k cs[j].1<;>cases decide (cs[j].1∈keys)<;>simp
    rw[e];rfl
   |true=>
    have e:(!tN k cs[j].1||decide (cs[j].1∈keys))=false:=by
     revert hk;cases tN k cs[j].1<;>cases decide (cs[j].1∈keys)<;>simp
    have F:cs[j].1∉keys:=by
     revert e;cases tN k cs[j].1<;>simp
    rw[e,aOd rfl,O,aOd (λ_=>uL _),uE,aOd rfl,aOd (s5 pN),QD];unfold wO;rw[aOi F];cases tS d (c|| !decide (k=9)) false cs[j].2.1<;>rfl
  rw[I];cases hk:(tN k cs[j].1&& !decide (cs[j].1∈keys)) with
  |false=>
   rw[aOi (show¬false=true by simp),aOc];dsimp only;exact⟨_,rfl,s7 R,rfl⟩
  |true=>
   rw[aOd rfl];cases hf:tS d (c|| !decide (k=9)) false cs[j].2.1 with
   |false=>
    rw[aOi (show¬false=true by simp),aOc];dsimp only;exact⟨_,rfl,m',rfl⟩
   |true=>
    rw[aOd rfl,aOc];dsimp only;rw[M hf,show ((j:Int)+1)=((j+1:Nat):Int) by omega,Bool.true_and,Bool.true_and];obtain⟨w,w1,w2⟩:=a5b E G m (j+1) (AC R cs[j].2.1) (keys++[cs[j].1]) pN (c:=c);refine⟨w,w1,?_⟩;rw[aJt,aO7];rw[aOk] at w2;exact w2
def aJu {D d:Nat}{c:Bool}(j: ∀x∈cs,YC GP D d x.2.1) (E:wC cs<=1000000000) {g1}(R:List rW):
  ∃m',KR g1 GP (s7 R) (k,(t,(n,(st,(cs,(ps,())))))) (D:Int) c=some (decide (cs.length<=20)&&(yJ k d (c|| !decide (k=9)) [] cs&&decide (LO∈cs.map (·.1))),m')/\
   (yJ k d (c|| !decide (k=9)) [] cs=true->m'=s7 (CD R cs)):=by
 obtain⟨w,w1,w2⟩:=a5b (t:=t) (n:=n) (st:=st) (ps:=ps) (k:=k) (c:=c) j E cs.length 0 R [] pN;rw[aOP] at w2;unfold KR;rw[show rC (IF (k,(t,(n,(st,(cs,(ps,())))))) (D:Int) c GP) ((0:Int),s7 R,([]:pS))=some w from w1];unfold sK;rw[aOc];cases z:yJ k d (c|| !decide (k=9)) [] cs with
 |true=>
  rw[z,aOd rfl] at w2;subst w2;dsimp only;rw[LH,List.nil_append,Bool.true_and];exact⟨_,by rw[show decide ((cs.length:Int)<=20)=decide (cs.length<=20) by rw[aOE];simp;omega],λ_=>rfl⟩
 |false=>
  rw[z,aOi (show¬false=true by simp)] at w2;obtain⟨m',rfl⟩:=w2;rw[aPC,Bool.and_false];exact⟨m',rfl,λh=>by cases h⟩
end
abbrev KCT:Type:=Nm->LK->Int->Bool->Option (Bool×Nm)
section
variable {l:List qG}{GP:ja}{GC:KCT}{i:Nat}{k:Int}{t n st:pJ}{cs:List rO}{ps:List qG}
def aJv (hi:i<l.length) (F:l[i]= .mk k t n st cs ps) {D d:Nat}(hd:d=D+1) (hD:D<=100) {c:Bool}(K:YC GP (D+1) (d+1) ps)
  (Z: ∀R:List rW,∃m',GC (s7 R) (k,(t,(n,(st,(cs,(ps,())))))) ((D:Int)+1) c=some (decide (cs.length<=20)&&(yJ k (d+1) (c|| !decide (k=9)) [] cs&&decide (LO∈cs.map (·.1))),m')/\(yJ k (d+1) (c|| !decide (k=9)) [] cs=true->m'=s7 (CD R cs))) (hw:wL l<=1000000000) (R:List rW):
  ∃w,IG l (D:Int) c GC GP ((i:Int),s7 R)=some w/\(if (!(AB l i&&wF l[i])&&BM d c l[i])=true then w= .inl ((i:Int)+1,s7 (QK R l[i])) else∃m',w= .inr (.inr (false,m'))):=by
 have hc:=CC l;have G:=yV (aOm hi);rw[F,vS] at G;have I:=a42 hi;have M:decide (k=1)=wF l[i]:=by rw[F];rfl
 have U:fit n:=by unfold fit;omega
 have Q:fit st:=by unfold fit;omega
 have Y:decide ((8:Int)<=(D:Int))= !decide (d<=8):=by rw[aOE];simp;omega
 unfold IG;dsimp only;rw[xI hi F];dsimp only;rw[aOd (sG hi),aOd (rP hi),aJo U Q,aOc,M,I,Y];have E:qH ((i:Int)+1):=s5 pN;simp only[aOd E];have O: ∀q:Bool,((q==false)&&((((0:Int)<(i:Int))&&wF l[i])==true))=true->0<i:=by
  intro q h;simp at h;omega
 rw[aOd (λh=>by unfold qH;omega),aOd (λh=>by have:=O _ h;omega)];rw[F] at*;rw[iz,a48];have X:((!yW k t n st cs ps||(decide (k=10)&& !c))||(AB l i&&wF (qG.mk k t n st cs ps)))= !(!(AB l i&&wF (qG.mk k t n st cs ps))&&(yW k t n st cs ps&& !(decide (k=10)&& !c))):=by
  cases AB l i<;>cases wF (qG.mk k t n st cs ps)<;>cases yW k t n st cs ps<;>cases decide (k=10)<;>cases c<;>rfl
 rw[X,<-Bool.and_assoc (!(AB l i&&wF (qG.mk k t n st cs ps))) (yW k t n st cs ps&& !(decide (k=10)&& !c))];cases hh:(!(AB l i&&wF (qG.mk k t n st cs ps))&&(yW k t n st cs ps&& !(decide (k=10)&& !c))) with
 |false=>
  rw[aPC];exact⟨_,rfl,s7 R,rfl⟩
 |true=>
  rw[aOi (show¬(!true)=true by decide),Bool.true_and];by_cases k11:k=11
  .subst k11;by_cases h8:d<=8
   .obtain⟨m1,c1,c2⟩:=K R c;have c1':GP (s7 R) ps ((D:Int)+1) c=some (tS (d+1) c false ps,m1):=c1;rw[c1',xH h8,aOd rfl,aOd rfl,aOd (λ_=>by unfold qH;omega),aOd (λ_=>uL _),uE,Bool.true_and];dsimp only;cases hf:tS (d+1) c false ps with
    |false=>exact⟨_,rfl,m1,rfl⟩
    |true=>exact⟨_,rfl,by rw[c2 hf];rfl⟩
   rw[DI h8];exact⟨_,rfl,s7 R,rfl⟩
  have e11:decide (k=11)=false:=DI k11;rw[aOi k11,aOi k11,e11];by_cases j:7<=k/\k<=9
  .have e79:(decide (7<=k)&&decide (k<=9))=true:=by simp [j]
   rw[aOd j,aOd j,e79];by_cases h8:d<=8
   .obtain⟨m1,c1,c2⟩:=Z R;rw[c1,xH h8];rw[aOi (show¬((false==true)&&((!true)==false))=true by decide),aOi (show¬(false&&true)=true by decide),aOd (show ((true==true)&&((!true)==false))=true by decide),aOd (λ_=>by unfold qH;omega),aOd (λ_=>uL _),uE,Bool.true_and];dsimp only;cases hz:(decide (cs.length<=20)&&(yJ k (d+1) (c|| !decide (k=9)) [] cs&&decide (LO∈cs.map (·.1)))) with
    |false=>exact⟨_,rfl,m1,rfl⟩
    |true=>
     have V:yJ k (d+1) (c|| !decide (k=9)) [] cs=true:=by
      revert hz;cases yJ k (d+1) (c|| !decide (k=9)) [] cs<;>simp
     rw[c2 V,QD,Bool.true_and,aOi (show¬(!true|| !true)=true by decide)]
     by_cases z:n=[]
     .rw[aOi (show¬(!false&& !decide (n=[]))=true by simp [z]),aOd z];exact⟨_,rfl,rfl⟩
     rw[aOd (show (!false&& !decide (n=[]))=true by simp [z]),aOi z];exact⟨_,rfl,rfl⟩
   rw[DI h8];exact⟨_,rfl,s7 R,rfl⟩
  have e79:(decide (7<=k)&&decide (k<=9))=false:=by rw[Bool.eq_false_iff];simpa using j
  rw[aOi j,aOi j,e79,QD];rw[aOi (show¬((false==true)&&((!decide (d<=8))==false))=true by simp),aOi (show¬(false&&true)=true by decide),aOi (show¬((false==true)&&((!decide (d<=8))==false))=true by simp),aOi (show¬(false&&true)=true by decide)];by_cases z:n=[]
  .rw[aOi (show¬(!false&& !decide (n=[]))=true by simp [z]),aOd z];exact⟨_,rfl,rfl⟩
  rw[aOd (show (!false&& !decide (n=[]))=true by simp [z]),aOi z];exact⟨_,rfl,rfl⟩
end
def a5d {l:List qG}{GP:ja}{GC:KCT}{D d:Nat}{c:Bool}(F: ∀(i:Nat) (h:i<l.length) (R:List rW),∃w,IG l (D:Int) c GC GP ((i:Int),s7 R)=some w/\(if (!(AB l i&&wF l[i])&&BM d c l[i])=true then w= .inl ((i:Int)+1,s7 (QK R l[i])) else∃m',w= .inr (.inr (false,m')))):
  ∀(m j:Nat) (R:List rW),j+m=l.length->∃m',(sK (rC (IG l (D:Int) c GC GP) ((j:Int),s7 R)) λO=>some ((true,O)))=some (tS d c (AB l j) (l.drop j),m')/\(tS d c (AB l j) (l.drop j)=true->m'=s7 (AC R (l.drop j)))
 |0,j,R,G=>by
  have:j=l.length:=by omega
  subst this;rw[aOQ,sZ,a40,a49];refine⟨s7 R,?_,λ_=>rfl⟩;unfold IG;dsimp only;rw[aOi (sL _)];rfl
 |m+1,j,R,G=>by
  have z:j<l.length:=by omega
  rw[aOx z,YA,sZ,<-Bool.and_assoc];obtain⟨w,w1,w2⟩:=F j z R;rw[w1,aOc];cases E:(!(AB l j&&wF l[j])&&BM d c l[j]) with
  |false=>
   rw[E,aOi (show¬false=true by simp)] at w2;obtain⟨m',rfl⟩:=w2;exact⟨m',rfl,λh=>by cases h⟩
  |true=>
   rw[E,aOd rfl] at w2;subst w2;dsimp only;rw[Bool.true_and,a5a,<-Ad z,show ((j:Int)+1)=((j+1:Nat):Int) by omega];exact a5d F m (j+1) _ pN
def a5e: ∀(k N:Nat) (ps:List qG),sI ps<=k->k<=99->2*k+2<=N->wL ps<=1000000000->∀D:Nat,D+k<=99->YC (ET N).2 D (D+1) ps
 |k,N,ps,I,hk,Q,G,D,O=>by
  obtain⟨N,rfl⟩: ∃k,N=k+2:=⟨N-2,pN⟩;intro R c;show∃m',TW (KR (ET N).1 (ET N).2) (ET (N+1)).2 (s7 R) ps (D:Int) c=_/\_;unfold TW;have ih: ∀M,N<=M->∀qs:List qG,sI qs+1<=k->wL qs<=1000000000->YC (ET M).2 (D+1) (D+1+1) qs:=λM U qs V K=>by
   cases k with
   |zero=>omega
   |succ k=>exact a5e k M qs pN pN pN K (D+1) pN
  have:=a5d (l:=ps) (GP:=(ET (N+1)).2) (GC:=KR (ET N).1 (ET N).2) (D:=D) (d:=D+1) (c:=c) (λi h R=>by
   have j:=B1 (aOm h);have E:=yV (aOm h);cases z:ps[i] with
   |mk k' t n st cs ps'=>
    rw[z] at j;have⟨o1,o2,o3⟩:=DK (aOU j I) hk;rw[z,vS] at E;rw[<-z];exact aJv h z rfl pN (ih (N+1) pN ps' o3 pN) (λR=>aJu (D:=D+1) (λx F=>ih N (aOA _) x.2.1 (by have:=CB F;omega) (by have:=yI F;omega)) pN R) G R) ps.length 0 R pN
  rw[aOP] at this;exact this
def aJw {ps:List qG}(z:sI ps<=98) (j:wL ps<=1000000000) (c:Bool): ∃m',XI [] ps 0 c=some (tS 1 c false ps,m')/\(tS 1 c false ps=true->m'=s7 (AC [] ps)):=by rw[aGg];exact a5e 98 1000 ps z pN pN j 0 pN [] c
end Go.Proofs.YtedimeeleabhnaaGreatDoor
namespace Go.Proofs.YtedimeeleabhnaaGreatDoor
open Vc
mutual
def IX (R:pK):qG->pK
  | .mk k _ n _ cs ps=>IY (vD (if 2<=k/\k<=9 then wO R n else R) ps) cs
termination_by p=>SizeOf.sizeOf p
def vD (R:pK):List qG->pK
  |[]=>R
  |p::l=>vD (IX R p) l
termination_by l=>SizeOf.sizeOf l
def IY (R:pK):List (pJ×List qG×Unit)->pK
  |[]=>R
  |(_,ps,_)::l=>IY (vD R ps) l
termination_by l=>SizeOf.sizeOf l
end
def Ae {R:List rW}{k:Int}{t n st:pJ}{cs:List rO}{ps:List qG}:IX R (.mk k t n st cs ps)=IY (vD (if 2<=k/\k<=9 then wO R n else R) ps) cs:=by rw[IX]
def V1 {R:List rW}:vD R []=R:=by rw[vD]
def Af {R:List rW}{p:qG}{l:List qG}:vD R (p::l)=vD (IX R p) l:=by rw[vD]
def jc {R:List rW}:IY R []=R:=by rw[IY]
def aJx {R:List rW}{x:rO}{l:List rO}:IY R (x::l)=IY (vD R x.2.1) l:=by obtain⟨a,b,u⟩:=x;rw[IY]
mutual
def a5f: ∀(p:qG) (R:List rW),(IX R p).length<=R.length+wP p
  | .mk k t n st cs ps,R=>by
    rw[Ae,vS];have D:=zq10 cs (vD (if 2<=k/\k<=9 then wO R n else R) ps);have z:=jd ps (if 2<=k/\k<=9 then wO R n else R)
    have j:(if 2<=k/\k<=9 then wO R n else R).length<=R.length+1:=by
      have:=zi R n;split<;>omega
    omega
termination_by p=>SizeOf.sizeOf p
def jd: ∀(l:List qG) (R:List rW),(vD R l).length<=R.length+wL l
  |[],R=>by rw[V1];omega
  | p::l,R=>by
    rw[Af,CA];have z:=jd l (IX R p);have j:=a5f p R;omega
termination_by l=>SizeOf.sizeOf l
def zq10: ∀(l:List (pJ×List qG×Unit)) (R:List rW),(IY R l).length<=R.length+wC l
  |[],R=>by rw[jc];omega
  | (k,ps,u)::l,R=>by
    rw[aJx,LI];have j:=zq10 l (vD R ps);have z:=jd ps R;dsimp only at j|-;omega
termination_by l=>SizeOf.sizeOf l
end
section
variable {l:List qG}{G:List qG->List rW->Option (List rW)}{i:Nat}{k:Int}{t n st:pJ}{cs:List rO}{ps:List qG}
def a5g (hi:i<l.length) (E:l[i]= .mk k t n st cs ps) (D: ∀x∈cs,∀R:List rW,R.length+wL x.2.1<=3000000000->G x.2.1 R=some (vD R x.2.1)):
    ∀(m j:Nat) (R:List rW),j+m=cs.length->R.length+wC (cs.drop j)<=3000000000->wC cs<=1000000000->rC (I0 l (i:Int) G) (R,(j:Int))=some (IY R (cs.drop j))
  | 0,j,R,M,_,_=>by
    have:j=cs.length:=by omega
    subst this;rw[aOQ,jc,sZ];unfold I0;dsimp only;rw[xI hi E];dsimp only;rw[aOi (sL _)];rfl
  | m+1,j,R,M,F,I=>by
    have z:j<cs.length:=by omega
    have O:=BL cs;rw[aOx z] at F|-;rw[LI] at F;rw[aJx,sZ]
    have K:I0 l (i:Int) G (R,(j:Int))=some (.inl (vD R cs[j].2.1,(j:Int)+1)):=by
      unfold I0;dsimp only;rw[xI hi E];dsimp only;rw[uX (t:=rV) z,aOd (sG z),aOd (rP z),D _ (aOm z) R pN,aOc,aOd (s5 pN)]
    rw[K,aOc];dsimp only;have:=jd cs[j].2.1 R;rw[show ((j:Int)+1)=((j+1:Nat):Int) by omega,a5g hi E D m (j+1) (vD R cs[j].2.1) pN pN I]
def aJy (hi:i<l.length) (z:l[i]= .mk k t n st cs ps) (E: ∀R:List rW,R.length+wL ps<=3000000000->G ps R=some (vD R ps)) (F: ∀x∈cs,∀R:List rW,R.length+wL x.2.1<=3000000000->G x.2.1 R=some (vD R x.2.1)) (Q:wL l<=1000000000) (R:List rW) (I:R.length+wP l[i]<=3000000000):
    GF l G (R,(i:Int))=some (.inl (IX R l[i],(i:Int)+1)):=by
  have O:=CC l;have D:=yV (aOm hi);rw[z,vS] at D I;unfold GF;dsimp only;rw[xI hi z,z,Ae];dsimp only;rw[aOd (sG hi),aOd (rP hi),UR _ _ pN,aOd (λ_=>uL _),uE]
  have M:(if 2<=k/\k<=9 then wO R n else R).length<=R.length+1:=by
    have:=zi R n;split<;>omega
  have e: ∀{β:Type}(K:List rW->Option β),(rD (σ:=pK) (
      if ((((2:Int)<=k)&&(k<=(9:Int)))&&(!decide (n∈R)))=true then
       if (([]:pK).length+R.length)*16<=140737488355328 then
        if ((([]:pK)++R).length+([n]:pK).length)*16<=140737488355328 then
         some (((([]:pK)++R)++([n]:pK)))
        else none
       else none
      else
       some (R)
     ) K)=K (if 2<=k/\k<=9 then wO R n else R):=by
    intro β K;unfold rD wO;by_cases j:2<=k/\k<=9
    · rw[aOd j]
      by_cases hm:n∈R
      .rw[aOi (show¬((decide (2<=k)&&decide (k<=9))&& !decide (n∈R))=true by simp [hm]),aOd hm,aOc]
      rw[aOd (show ((decide (2<=k)&&decide (k<=9))&& !decide (n∈R))=true by simp [hm,j]),aOi hm,aOd aQO,aOd (by simp only[aOh,aOg,aOe];omega),aOc,List.nil_append]
    rw[aOi j,aOi (show¬((decide (2<=k)&&decide (k<=9))&& !decide (n∈R))=true by simp;omega),aOc]
  rw[e];generalize (if 2<=k/\k<=9 then wO R n else R)=R2 at M|-;have U:=jd ps R2;have:=a5g hi z F cs.length 0 (vD R2 ps) pN (by rw[aOP];omega) pN;rw[aOP] at this;rw[E R2 pN,aOc,show rC (I0 l (i:Int) G) (vD R2 ps,(0:Int))=_ from this];unfold rD;rw[aOc,aOd (s5 pN)]
end
def a5h {l:List qG}{G:List qG->List rW->Option (List rW)}(E: ∀(i:Nat) (h:i<l.length) (R:List rW),R.length+wP l[i]<=3000000000->GF l G (R,(i:Int))=some (.inl (IX R l[i],(i:Int)+1))):
    ∀(m j:Nat) (R:List rW),j+m=l.length->R.length+wL (l.drop j)<=3000000000->rC (GF l G) (R,(j:Int))=some (vD R (l.drop j))
  | 0,j,R,F,_=>by
    have:j=l.length:=by omega
    subst this;rw[aOQ,V1,sZ];unfold GF;dsimp only;rw[aOi (sL _)];rfl
  | m+1,j,R,F,D=>by
    have z:j<l.length:=by omega
    rw[aOx z] at D|-;rw[CA] at D;have:=a5f l[j] R;rw[Af,sZ,E j z R pN,aOc];dsimp only;rw[show ((j:Int)+1)=((j+1:Nat):Int) by omega,a5h E m (j+1) _ pN pN]
def a5i: ∀(k N:Nat) (ps:List qG),sI ps<=k->k<=99->k+1<=N->wL ps<=1000000000->∀R:List rW,R.length+wL ps<=3000000000->K6 N ps R=some (vD R ps)
  | k,N,ps,K,hk,O,I,R,j=>by
    obtain⟨N,rfl⟩: ∃k,N=k+1:=⟨N-1,pN⟩;show SS (K6 N) ps R=_;unfold SS
    have:=a5h (l:=ps) (G:=K6 N) (λi h R j=>by
      have z:=B1 (aOm h);have E:=yV (aOm h);cases D:ps[i] with
      | mk k' t n st cs ps'=>
        rw[D] at z;have⟨o1,o2,o3⟩:=DK (aOU z K) hk;rw[D,vS] at E
        have ih: ∀qs:List qG,sI qs+1<=k->wL qs<=1000000000->∀R:List rW,R.length+wL qs<=3000000000->K6 N qs R=some (vD R qs):=λqs Q M R j=>by
          cases k with
          |zero=>omega
          |succ k=>exact a5i k N qs pN pN pN M R j
        rw[<-D];exact aJy h D (ih ps' o3 pN) (λx F=>ih x.2.1 (by have:=CB F;omega) (by have:=yI F;omega)) I R j) ps.length 0 R pN (by rw[aOP];exact j)
    rw[aOP] at this;unfold rD;rw[show rC (GF ps (K6 N)) (R,(0:Int))=_ from this];rfl
def a5j {ps:List qG}(z:sI ps<=99) (j:wL ps<=1000000000):GG ps []=some (vD [] ps):=by rw[aC6];exact a5i 99 1000 ps z pN pN j [] aQO
mutual
def V2:qG->pK
  | .mk k _ n _ cs ps=>if k=11 then FT ps else(if n=[] then[] else[n])++(if 7<=k/\k<=9 then je cs else[])
termination_by p=>SizeOf.sizeOf p
def FT:List qG->pK
  |[]=>[]
  |p::l=>V2 p++FT l
termination_by l=>SizeOf.sizeOf l
def je:List (pJ×List qG×Unit)->pK
  |[]=>[]
  |(_,ps,_)::l=>FT ps++je l
termination_by l=>SizeOf.sizeOf l
end
def a5k {k:Int}{t n st:pJ}{cs:List rO}{ps:List qG}:V2 (.mk k t n st cs ps)=if k=11 then FT ps else(if n=[] then[] else[n])++(if 7<=k/\k<=9 then je cs else[]):=by rw[V2]
def a5l:FT []=[]:=by rw[FT]
def a5m {p:qG}{l:List qG}:FT (p::l)=V2 p++FT l:=by rw[FT]
def xU (R A R2:List rW):Prop:=R.Nodup->R2.Nodup/\∀x,x∈R2↔x∈R\/x∈A
def xU.refl (R:List rW):xU R [] R:=λh=>⟨h,λx=>by simp⟩
def xU.trans {R A R2 B R3:List rW}(z:xU R A R2) (j:xU R2 B R3):xU R (A++B) R3:=λh=>by
  obtain⟨a1,a2⟩:=z h;obtain⟨b1,b2⟩:=j a1;exact⟨b1,λx=>by rw[b2,a2,aOR,or_assoc]⟩
def xU.add (R:List rW) (n:rW):xU R [n] (wO R n):=λh=>by
  unfold wO;split
  · rename_i hm
    exact⟨h,λx=>⟨.inl,λh=>h.elim id λh=>by rw[aOs] at h;rw[h];exact hm⟩⟩
  rename_i hm
  exact⟨List.nodup_append.2 ⟨h,by simp,λa ha b hb=>by rw[aOs] at hb;rintro rfl;rw[hb] at ha;exact hm ha⟩,λx=>by simp⟩
def xU.swap {R A B R2:List rW}(h:xU R (A++B) R2):xU R (B++A) R2:=λj=>by
  obtain⟨a1,a2⟩:=h j;exact⟨a1,λx=>by rw[a2];simp only[aOR,or_comm]⟩
def zq11 {x:rO}{l:List rO}:je (x::l)=FT x.2.1++je l:=by obtain⟨a,b,u⟩:=x;rw[je]
def zq12:je []=[]:=by rw[je]
mutual
def aJz: ∀(p:qG) (R:List rW),xU R (V2 p) (QK R p)
  | .mk k t n st cs ps,R=>by
    rw[a5k,a48];split
    .exact Ag ps R
    have h:xU R (if 7<=k/\k<=9 then je cs else[]) (if 7<=k/\k<=9 then CD R cs else R):=by
      split
      .exact zq13 cs R
      exact xU.refl R
    split
    .rw[List.nil_append];exact h
    exact(h.trans (xU.add _ n)).swap
termination_by p=>SizeOf.sizeOf p
def Ag: ∀(l:List qG) (R:List rW),xU R (FT l) (AC R l)
  |[],R=>by rw[a5l,a49];exact xU.refl R
  |p::l,R=>by rw[a5m,a5a];exact(aJz p R).trans (Ag l _)
termination_by l=>SizeOf.sizeOf l
def zq13: ∀(l:List (pJ×List qG×Unit)) (R:List rW),xU R (je l) (CD R l)
  |[],R=>by rw[zq12,aJs];exact xU.refl R
  |(k,ps,u)::l,R=>by rw[zq11,aJt];exact(Ag ps R).trans (zq13 l _)
termination_by l=>SizeOf.sizeOf l
end
def aJA {n:pJ}(h:uT n=true):n≠[]:=λe=>by rw[e] at h;cases h
def a5n {k:Int}{t n st:pJ}{cs:List rO}{ps:List qG}(h:yW k t n st cs ps=true):
    ((k=1\/k=10)/\n=[]/\cs=[]/\ps=[])\/(k=11/\n≠[]/\cs=[])\/(2<=k/\k<=6/\n≠[]/\cs=[]/\ps=[])\/(7<=k/\k<=9/\n≠[]/\ps=[]):=by
  unfold yW at h;split at h
  · rename_i hk
    simp at h;exact .inl ⟨.inl hk,h.1.1.1.2,h.1.2,h.2⟩
  split at h
  · rename_i hk
    simp at h;exact .inl ⟨.inr hk,h.1.1.1.2,h.1.2,h.2⟩
  split at h
  · rename_i hk
    simp only[aOo,aPE,aOt,List.isEmpty_iff] at h;have z:=aJA h.1.1.1.2;by_cases k11:k=11
    .exact .inr (.inl ⟨k11,z,h.1.2.resolve_right pN⟩)
    have j:=h.2.resolve_right k11
    by_cases k7:7<=k
    .exact .inr (.inr (.inr ⟨k7,pN,z,j⟩))
    exact .inr (.inr (.inl ⟨pN,pN,z,h.1.2.resolve_right pN,j⟩))
  cases h
mutual
def aJB: ∀(p:qG) (d:Nat) (c:Bool) (R:List rW),BM d c p=true->xU R (V2 p) (IX R p)
  | .mk k t n st cs ps,d,c,R,h=>by
    rw[iz] at h;simp only[aOo] at h;obtain⟨⟨D,_⟩,j⟩:=h;rw[a5k,Ae];rcases a5n D with⟨hk,rfl,rfl,rfl⟩ |⟨rfl,z,rfl⟩ |⟨k2,k6,z,rfl,rfl⟩ |⟨k7,k9,z,rfl⟩
    · rw[aOi pN,aOd rfl,aOi pN,aOi pN,V1,jc]
      exact xU.refl R
    · rw[aOd rfl] at j
      simp only[aOo] at j;rw[aOd rfl,aOi pN,jc];exact Ah ps (d+1) c false R j.2
    · rw[aOi pN,aOi z,aOi pN,aOd pN,V1,jc,List.append_nil]
      exact xU.add R n
    rw[aOi pN,aOd ⟨k7,k9⟩] at j
    simp only[aOo] at j;rw[aOi pN,aOi z,aOd ⟨k7,k9⟩,aOd pN,V1];exact(xU.add R n).trans (zq14 cs k (d+1) _ [] _ j.2.2.1)
termination_by p=>SizeOf.sizeOf p
def Ah: ∀(l:List qG) (d:Nat) (c b:Bool) (R:List rW),tS d c b l=true->xU R (FT l) (vD R l)
  |[],_,_,_,R,_=>by rw[a5l,V1];exact xU.refl R
  | p::l,d,c,b,R,h=>by
    rw[YA] at h;simp only[aOo] at h;rw[a5m,Af];exact(aJB p d c R h.2.1).trans (Ah l d c _ _ h.2.2)
termination_by l=>SizeOf.sizeOf l
def zq14: ∀(l:List (pJ×List qG×Unit)) (k:Int) (d:Nat) (c:Bool) (keys R:List rW),yJ k d c keys l=true->xU R (je l) (IY R l)
  |[],_,_,_,_,R,_=>by rw[zq12,jc];exact xU.refl R
  | (key,ps,u)::l,k,d,c,keys,R,h=>by
    rw[Ac] at h;simp only[aOo] at h;rw[zq11,aJx];exact(Ah ps d c false R h.2.1).trans (zq14 l k d c _ _ h.2.2)
termination_by l=>SizeOf.sizeOf l
end
def aJC {ps:List qG}{d:Nat}{c b:Bool}(h:tS d c b ps=true):(AC [] ps).length=(vD [] ps).length:=by
  obtain⟨a1,a2⟩:=Ag ps [] pP;obtain⟨b1,b2⟩:=Ah ps d c b [] h pP;exact((List.perm_ext_iff_of_nodup a1 b1).2 λx=>by rw[a2,b2]).length_eq
def xV (c:Bool) (ps:List qG):Bool:=(tS 1 c false ps&&decide ((vD [] ps).length<=20))&&decide ((uD ps).length<=4000)
def a5o {ps:List qG}(D:sI ps<=98) (j:wL ps<=1000000000) (c:Bool):PQ ps c=some (xV c ps):=by
  obtain⟨m',G,F⟩:=aJw D j c;unfold PQ xV;rw[G,aOc,a4V pN j,aOd (λ_=>uL _),uE];dsimp only;cases hf:tS 1 c false ps with
  |false=>rfl
  | true=>
    have E:=F hf;have z:(AC [] ps).length=(vD [] ps).length:=aJC hf;rw[E,a4h,z,show decide (((vD [] ps).length:Int)<=20)=decide ((vD [] ps).length<=20) by rw[aOE];simp;omega,show decide (((uD ps).length:Int)<=4000)=decide ((uD ps).length<=4000) by rw[aOE];simp;omega]
def Ai {ps:List qG}(z:sI ps<=98) (j:wL ps<=1000000000):KU ps=some (xV false ps):=by
  unfold KU;rw[a5o z j];rfl
def aJD {ps:List qG}(z:sI ps<=98) (j:wL ps<=1000000000):U2 ps=some (xV true ps):=by
  unfold U2;rw[a5o z j];rfl
def Aj {ps:List qG}(z:sI ps<=98) (j:wL ps<=1000000000):KQ ps=some (xV false ps):=by
  unfold KQ xV;rw[a47 pN j,aOc,a5j pN j,aOd (λ_=>uL _),uE,Y9 pN j,aOd (λ_=>uL _),uE,show decide (((vD [] ps).length:Int)<=20)=decide ((vD [] ps).length<=20) by rw[aOE];simp;omega,show decide (((uD ps).length:Int)<=4000)=decide ((uD ps).length<=4000) by rw[aOE];simp;omega]
def aJE {ps:List qG}(z:sI ps<=98) (j:wL ps<=1000000000):TU ps=some (xV true ps):=by
  unfold TU xV;rw[a47 pN j,aOc,a5j pN j,aOd (λ_=>uL _),uE,Y9 pN j,aOd (λ_=>uL _),uE,show decide (((vD [] ps).length:Int)<=20)=decide ((vD [] ps).length<=20) by rw[aOE];simp;omega,show decide (((uD ps).length:Int)<=4000)=decide ((uD ps).length<=4000) by rw[aOE];simp;omega]
def yK (c:Bool) (ps:List qG):pJ×Int:=if xV c ps=true then(uD ps,0) else([],1)
def a5p {ps:List qG}(z:sI ps<=98) (j:wL ps<=1000000000):PV ps=some (yK false ps):=by
 unfold PV yK;rw[Ai z j,a4X z j,aOc];cases xV false ps<;>rfl
def aJF {ps:List qG}(z:sI ps<=98) (j:wL ps<=1000000000):U6 ps=some (yK true ps):=by
 unfold U6 yK;rw[aJD z j,a4X z j,aOc];cases xV true ps<;>rfl
def a5q {ps:List qG}(z:sI ps<=98) (j:wL ps<=1000000000):PJ ps=some (yK false ps):=by
 unfold PJ yK;rw[Aj z j,Y9 pN j,aOc];cases xV false ps<;>rfl
def aJG {ps:List qG}(z:sI ps<=98) (j:wL ps<=1000000000):TZ ps=some (yK true ps):=by
 unfold TZ yK;rw[aJE z j,Y9 pN j,aOc];cases xV true ps<;>rfl
def aJH (s:pJ): ∃b,U8 s=some b/\U7 s=some b/\(b=true->∃ps x1 x2 x3 y1 y2 y3,KW s=some (ps,x1,x2,x3,0)/\KT s=some (ps,y1,y2,y3,0)/\sI ps<=9/\wL ps<=20000000/\xV false ps=true/\uD ps=s):=by
 obtain⟨p,q,hp,D,h⟩:=aJn s;have hP:KW s=some (p.1,p.2.1,p.2.2.1,p.2.2.2.1,p.2.2.2.2):=by unfold KW;rw[hp];rfl
 have E:KT s=some (q.1,q.2.1,q.2.2.1,q.2.2.2.1,q.2.2.2.2):=by unfold KT;rw[D];rfl
 unfold U8 U7 XL XK;rw[hP,E,aOc,aOc];dsimp only;rcases h with⟨z,j,I,G,F⟩ |⟨z,j⟩
 .rw[z,j,aOi (show¬(!decide ((0:Int)=0))=true by decide),aOi (show¬(!decide ((0:Int)=0))=true by decide),<-I,a5p pN pN,a5q pN pN];refine⟨_,rfl,rfl,λhb=>⟨p.1,p.2.1,p.2.2.1,p.2.2.2.1,q.2.1,q.2.2.1,q.2.2.2.1,rfl,rfl,G,F,?_⟩⟩;unfold yK at hb;cases hv:xV false p.1 with
  |false=>rw[hv] at hb;simp at hb
  |true=>rw[hv] at hb;simp at hb;exact⟨rfl,hb⟩
 rw[aOd (show (!decide (p.2.2.2.2=0))=true by simpa using z),aOd (show (!decide (q.2.2.2.2=0))=true by simpa using j),aOc,aOc];dsimp only;exact⟨false,by simp [z],by simp [j],λh=>by cases h⟩
mutual
def xC:qG->Bool
 | .mk k _ _ _ cs ps=>(!(decide (7<=k)&&decide (k<=9))&&AD ps)&&IZ cs
termination_by p=>SizeOf.sizeOf p
def AD:List qG->Bool
 |[]=>true
 |p::l=>xC p&&AD l
termination_by l=>SizeOf.sizeOf l
def IZ:List (pJ×List qG×Unit)->Bool
 |[]=>true
 |(_,ps,_)::l=>AD ps&&IZ l
termination_by l=>SizeOf.sizeOf l
end
def Ak {k:Int}{t n st:pJ}{cs:List rO}{ps:List qG}:xC (.mk k t n st cs ps)=((!(decide (7<=k)&&decide (k<=9))&&AD ps)&&IZ cs):=by rw[xC]
def V3: ∀l:List qG,AD l=l.all xC
 |[]=>by rw[AD];rfl
 |p::l=>by rw[AD,V3 l];rfl
def YD: ∀l:List rO,IZ l=l.all λc=>AD c.2.1
 |[]=>by rw[IZ];rfl
 |(a,b,u)::l=>by rw[IZ,YD l];rfl
noncomputable abbrev vg (N:Nat):=FI N
def a5r {α:Type}{l:List α}{f:Int->Option (Int⊕(Unit⊕Int))}(p:α->Bool) (hf: ∀(i:Nat) (h:i<l.length),f i=if p l[i]=true then some (.inr (.inr (i:Int))) else some (.inl ((i:Int)+1))) (j:f l.length=some (.inr (.inl ()))):
  ((sK (rC f 0) λ_=>some (-1:Int)).bind λr=>some (decide ((0:Int)<=r)))=some (l.any p):=by
 rw[yQ (l:=l) p (λk=>(k:Int)) hf j];rw[show sK (some (y4 (λk=>Sum.inr (k:Int)) (Sum.inl ()) (l.findIdx? p))) (λ_:Unit=>some (-1:Int))=some (y4 (λk=>(k:Int)) (-1) (l.findIdx? p)) from fv,aOc,a3i]
def a5s: ∀(k N:Nat) (ps:List qG),sI ps<=k->k<=99->8*k+8<=N->wL ps<=1000000000->(vg N).2.2.2.1 ps=some (AD ps)/\∀p∈ps,(vg N).2.2.2.2.2.2.2 (qG.un p)=some (xC p)
 |k,N,ps,E,hk,O,K=>by
  have G:=CC ps;have solid: ∀M,N<=M+4->∀p∈ps,(vg M).2.2.2.2.2.2.2 (qG.un p)=some (xC p):=λM Q p hp=>by
   have D:=B1 hp;have z:=yV hp;obtain⟨k',t,n,st,cs,ps'⟩:=p;have⟨o1,o2,o3⟩:=DK (aOU D E) hk;rw[vS] at z;have I:=BL cs;obtain⟨M,rfl⟩: ∃k,M=k+4:=⟨M-4,pN⟩;have ih: ∀M2,M<=M2->∀qs:List qG,sI qs+1<=k->wL qs<=1000000000->(vg M2).2.2.2.1 qs=some (AD qs):=λM2 R qs U F=>by
    cases k with
    |zero=>omega
    |succ k=>exact(a5s k M2 qs pN pN pN F).1
   have j:(vg (M+3)).2.2.2.2.2.2.1 cs=some (!IZ cs):=by
    show ((sK (rC (NX cs (λc=>((vg M).2.2.2.1 c.2.1).bind λr=>some (!r))) (0:Int)) λ_=>some (-1:Int)).bind λr=>some (decide ((0:Int)<=r)))=_;rw[a5r (l:=cs) (λc=> !AD c.2.1) (λi h=>by
     unfold NX;dsimp only;rw[aOd (sG h),aOd (rP h),uX (t:=rV) h,ih M (aOA _) _ (by have:=CB (aOm h);omega) (by have:=yI (aOm h);omega),aOc,aOc,aOd (s5 pN)]) (by
     unfold NX;rw[aOi (sL _)]),YD,GR]
   show X3 (vg (M+3)).1 (vg (M+3)).2.1 (vg (M+3)).2.2.1 (vg (M+3)).2.2.2.1 (vg (M+3)).2.2.2.2.1 (vg (M+3)).2.2.2.2.2.1 (vg (M+3)).2.2.2.2.2.2.1 (vg (M+3)).2.2.2.2.2.2.2 (k',(t,(n,(st,(cs,(ps',()))))))=_;unfold X3;dsimp only;rw[ih (M+3) pN ps' o3 pN,aOd (λ_=>uL _),uE,j,aOd (λ_=>uL _),uE,Ak,Bool.not_not]
  refine⟨?_,solid N pN⟩;obtain⟨N,rfl⟩: ∃k,N=k+4:=⟨N-4,pN⟩;show ((((sK (rC (NW ps (λx=>((vg N).2.2.2.2.2.2.2 x).bind λr=>some (!r))) (0:Int)) λ_=>some (-1:Int)).bind λr=>some (decide ((0:Int)<=r)))).bind λr=>some (!r))=_;rw[a5r (l:=ps) (λp=> !xC p) (λi h=>by
   unfold NW;dsimp only;rw[aOd (sG h),aOd (rP h),YB h,solid N pN _ (aOm h),aOc,aOc,aOd (s5 pN)]) (by
   unfold NW;rw[aOi (sL _)]),V3,GR,aOc,Bool.not_not]
def a5t {ps:List qG}(z:sI ps<=98) (j:wL ps<=1000000000) {p:qG}(hp:p∈ps):NY (qG.un p)=some (xC p):=by rw[aDk];exact(a5s 98 1000 ps z pN pN j).2 p hp
def aJI {l:List qG}{G:List qG->Option Bool}{i:Nat}{k:Int}{t n st:pJ}{cs:List rO}{ps:List qG}(hi:i<l.length) (D:l[i]= .mk k t n st cs ps) (z: ∀x∈cs,G x.2.1=some (AD x.2.1)) (F:wC cs<=1000000000):
  rC (K7 l (i:Int) G) 0=some (if IZ cs=true then .inl () else .inr (.inr (.inr false))):=by
 have E:=BL cs;have h:=yQ (f:=K7 l (i:Int) G) (l:=cs) (λc=> !AD c.2.1) (λ_=>(.inr (.inr false):Int⊕(Unit⊕Bool))) (λj h=>by
  unfold K7;rw[xI hi D];dsimp only;rw[aOd (rP hi),uX (t:=rV) h,aOd (sG h),aOd (rP hi),aOd (rP h),z _ (aOm h),aOc,aOd (s5 pN)]) (by
  unfold K7;rw[xI hi D];dsimp only;rw[aOd (rP hi),aOi (sL _)])
 rw[h,BG,GR,YD];cases cs.all (λc=>AD c.2.1)<;>rfl
def a5u: ∀(k N:Nat) (ps:List qG),sI ps<=k->k<=99->k+1<=N->wL ps<=1000000000->K8 N ps=some (AD ps)
 |k,N,ps,F,hk,M,K=>by
  obtain⟨N,rfl⟩: ∃k,N=k+1:=⟨N-1,pN⟩;show SU (K8 N) ps=_;unfold SU;have I:=CC ps;have h:=yQ (f:=NZ ps (K8 N)) (l:=ps) (λp=> !xC p) (λ_=>false) (λi h=>by
   have j:=B1 (aOm h);have D:=yV (aOm h);cases z:ps[i] with
   |mk k' t n st cs ps'=>
    rw[z] at j;have⟨o1,o2,o3⟩:=DK (aOU j F) hk;rw[z,vS] at D;have ih: ∀qs:List qG,sI qs+1<=k->wL qs<=1000000000->K8 N qs=some (AD qs):=λqs O G=>by
     cases k with
     |zero=>omega
     |succ k=>exact a5u k N qs pN pN pN G
    have e7:(((k'=(7:Int))||(k'=(8:Int)))||(k'=(9:Int)))=(decide (7<=k')&&decide (k'<=9)):=by rw[aOE];simp;omega
    unfold NZ;rw[xI h z];dsimp only;rw[e7,aOd (sG h),aOd (rP h),aOd (λ_=>rP h),ih ps' o3 pN,aOd (λ_=>uL _),uE,aJI h z (λx E=>ih x.2.1 (by have:=CB E;omega) (by have:=yI E;omega)) pN,aOd (s5 pN),Ak];cases(decide (7<=k')&&decide (k'<=9))<;>cases AD ps'<;>cases IZ cs<;>rfl) (by
   unfold NZ;rw[aOi (sL _)])
  rw[h,yf,GR,V3,Bool.not_not,Bool.and_true]
def a5v {ps:List qG}(E:sI ps<=98) (D:wL ps<=1000000000) {i:Nat}(h:i<ps.length):O0 (s8 ps (i:Int) ((i:Int)+1))=some (xC ps[i]):=by
 have e:s8 ps (i:Int) ((i:Int)+1)=[ps[i]]:=by
  unfold s8;rw[aOV,aOx h,show ((i:Int)+1).toNat-i=1 by omega];rfl
 have z:=B1 (aOm h);have j:=yV (aOm h);rw[e,show O0 [ps[i]]=K8 1000 [ps[i]] from by rw[aDo],a5u 99 1000 _ (by rw[IR,FR];omega) pN pN (by rw[CA,BK];omega),V3];simp
mutual
def V4:qG->qG
 | .mk k _ n _ cs ps=> .mk k [] n [] (EZ cs) (w8 ps)
termination_by p=>SizeOf.sizeOf p
def w8:List qG->List qG
 |[]=>[]
 |p::l=>(if xC p=true then[] else[V4 p])++w8 l
termination_by l=>SizeOf.sizeOf l
def EZ:List (pJ×List qG×Unit)->List (pJ×List qG×Unit)
 |[]=>[]
 |(k,ps,_)::l=>[(k,w8 ps,())]++EZ l
termination_by l=>SizeOf.sizeOf l
end
def FU (p:qG):List qG:=if xC p=true then[] else[V4 p]
def YE (c:rO):rO:=(c.1,w8 c.2.1,())
def Al {k:Int}{t n st:pJ}{cs:List rO}{ps:List qG}:V4 (.mk k t n st cs ps)= .mk k [] n [] (EZ cs) (w8 ps):=by rw[V4]
def Am:w8 []=[]:=by rw[w8]
def a5w {p:qG}{l:List qG}:w8 (p::l)=FU p++w8 l:=by rw[w8];rfl
def An:EZ []=[]:=by rw[EZ]
def aJJ {x:rO}{l:List rO}:EZ (x::l)=[YE x]++EZ l:=by obtain⟨a,b,u⟩:=x;rw[EZ];rfl
def Ao: ∀l:List qG,w8 l=l.flatMap FU
 |[]=>Am
 |p::l=>by rw[a5w,aO8,Ao l]
def Ap: ∀l:List rO,EZ l=l.map YE
 |[]=>An
 |c::l=>by rw[aJJ,aO7,Ap l];rfl
def aJK {k:Int}{st:pJ}{cs:List rO}(h:zN k st cs=true):zN k [] (EZ cs)=true:=by
 rcases a4R h with rfl|rfl|rfl|⟨rfl,rfl,rfl⟩ |h
 .rfl
 .rfl
 .rfl
 .rw[An];rfl
 exact il h
mutual
def aJL: ∀p:qG,EW (V4 p)<=EW p/\wP (V4 p)<=wP p
 | .mk k t n st cs ps=>by
  obtain⟨E,D⟩:=Aq ps;obtain⟨z,j⟩:=zq15 cs;rw[Al,Y1,Y1,vS,vS];simp only[aOh];refine⟨?_,pN⟩;cases hk:zN k st cs with
  |true=>rw[aJK hk,aOd rfl];omega
  |false=>
   rw[aOi (show¬false=true by simp)];split<;>omega
termination_by p=>SizeOf.sizeOf p
def Aq: ∀l:List qG,sI (w8 l)<=sI l/\wL (w8 l)<=wL l
 |[]=>by rw[Am];omega
 |p::l=>by
  obtain⟨E,D⟩:=aJL p;obtain⟨z,j⟩:=Aq l;rw[a5w,IR,CA];unfold FU;split
  .rw[List.nil_append];omega
  rw[List.singleton_append,IR,CA];omega
termination_by l=>SizeOf.sizeOf l
def zq15: ∀l:List (pJ×List qG×Unit),zO (EZ l)<=zO l/\wC (EZ l)<=wC l
 |[]=>by rw[An];omega
 |(k,ps,u)::l=>by
  obtain⟨E,D⟩:=Aq ps;obtain⟨z,j⟩:=zq15 l;rw[aJJ,@_root_.List.singleton_append,ic,ic,LI,LI];unfold YE;dsimp only;omega
termination_by l=>SizeOf.sizeOf l
end
def J0 {α β:Type}(f:α->β) (l:List α):(l.flatMap λc=>[f c])=l.map f:=by
 induction l with
 |nil=>rfl
 |cons c l ih=>rw[aO8,aO7,ih];rfl
def aJM {l:List qG}{G:List qG->Option Ja0}{i:Nat}{k:Int}{t n st:pJ}{cs:List rO}{ps:List qG}(hi:i<l.length) (D:l[i]= .mk k t n st cs ps) (z: ∀x∈cs,G x.2.1=some (w8 x.2.1)) (I:wC cs<=1000000000):
  rC (K9 l (i:Int) G) ((0:Int),([]:List rO))=some (EZ cs):=by
 have F:=BL cs;have h:=xB (f:=K9 l (i:Int) G) (l:=cs) (λj b=>(j,b)) (λb=>b) (λc=>[YE c]) (M:=10000000000) (λj h b E=>by
  unfold K9;dsimp only;rw[xI hi D];dsimp only;rw[uX (t:=rV) h,aOd (sG h),aOd (rP h),aOd (rP h),z _ (aOm h),aOc,aOd aQJ,aOd (s5 pN)];rfl) (λb=>by
  unfold K9;dsimp only;rw[xI hi D];dsimp only;rw[aOi (sL _)]) [] (by
   have:=A8 (l:=cs) (h:=λc=>[YE c]) (B:=1) (λ_ _=>by simp);simp only[aOh];omega)
 rw[h,Ap,List.nil_append,J0]
def a5x: ∀(k N:Nat) (ps:List qG),sI ps<=k->k<=98->k+1<=N->wL ps<=1000000000->KA N ps=some (w8 ps)
 |k,N,ps,Q,hk,X,O=>by
  obtain⟨N,rfl⟩: ∃k,N=k+1:=⟨N-1,pN⟩;show SV (KA N) ps=_;unfold SV;have V:=CC ps;have R: ∀p:qG,(FU p).length<=1:=λp=>by unfold FU;split<;>simp
  rw[Ao];have:=xB (f:=O1 ps (KA N)) (l:=ps) (λj b=>(b,j)) (λb=>b) FU (M:=10000000000) (λi h b E=>by
   have z:=B1 (aOm h);have F:=yV (aOm h);have I:=a5v (ps:=ps) pN O h;unfold O1;dsimp only;rw[aOd (sG h),aOd (rP h),aOd (s5 pN),aOd ⟨pN,pN,pN⟩,I,aOc];unfold FU at E|-;cases D:ps[i] with
   |mk k' t n st cs ps'=>
    rw[D] at z E;have⟨o1,o2,o3⟩:=DK (aOU z Q) pN;rw[D,vS] at F;have ih: ∀qs:List qG,sI qs+1<=k->wL qs<=1000000000->KA N qs=some (w8 qs):=λqs Y U=>by
     cases k with
     |zero=>omega
     |succ k=>exact a5x k N qs pN pN pN U
    cases G:xC (qG.mk k' t n st cs ps') with
    |true=>rw[aOd rfl,aOd (s5 pN),aOd rfl,List.append_nil]
    |false=>
     rw[G,aOi (show¬false=true by simp)] at E;rw[aOi (show¬false=true by simp),aOi (show¬false=true by simp),xI h D];dsimp only;rw[ih ps' o3 pN,aOc,aJM h D (λx K=>ih x.2.1 (by have:=CB K;omega) (by have:=yI K;omega)) pN];unfold rD;rw[aOc,aOd aQJ,aOd (s5 pN),Al];rfl) (λb=>by
   unfold O1;dsimp only;rw[aOi (sL _)]) [] (by have:=A8 (l:=ps) (λp _=>R p);simp only[aOh];omega)
  rw[this];rfl
def aJN {ps:List qG}(z:sI ps<=98) (j:wL ps<=1000000000) (hv:xV false ps=true):TX ps=some (w8 ps,0):=by
 unfold TX;rw[Aj z j,hv,aOc,aOi (show¬(!true)=true by decide),show X4 ps=KA 1000 ps from by rw[aDt],a5x 98 1000 ps z pN pN j];rfl
def a5y {ρ α:Type}{f:Int×List α×Nat->Option ((Int×List α×Nat)⊕ρ)}{l0:List α}{n:Nat}(out:List α×Nat->ρ) (g:α->α) (hf: ∀(i:Nat) (h:i<l0.length) (l:List α),l.length=l0.length->l[i]? =some l0[i]->f ((i:Int),l,n)=some (.inl ((i:Int)+1,l.set i (g l0[i]),n))) (D: ∀l,f ((l0.length:Int),l,n)=some (.inr (out (l,n)))):
  ∀(m j:Nat),j+m=l0.length->rC f ((j:Int),(l0.take j).map g++l0.drop j,n)=some (out (l0.map g,n))
 |0,j,E=>by
  have:j=l0.length:=by omega
  subst this;rw[xY (D _),aOQ,List.take_length,List.append_nil]
 |m+1,j,E=>by
  have z:j<l0.length:=by omega
  rw[AJ (hf j z _ pQ (by
   rw[aOp pQ];simp [Nat.min_eq_left (Nat.le_of_lt z)])),show ((j:Int)+1)=((j+1:Nat):Int) by omega]
  have e:((l0.take j).map g++l0.drop j).set j (g l0[j])=(l0.take (j+1)).map g++l0.drop (j+1):=by
   rw[List.set_append_right _ _ pQ,aOx z];simp only[aPa,aO2,Nat.min_eq_left (Nat.le_of_lt z),aPU,List.set_cons_zero];rw[List.take_succ_eq_append_getElem z,List.map_append,aOk];rfl
  rw[e];exact a5y out g hf D m (j+1) pN
def a5z {ρ α:Type}{f:Int×List α×Nat->Option ((Int×List α×Nat)⊕ρ)}{l0:List α}{n:Nat}(out:List α×Nat->ρ) (g:α->α) (hf: ∀(i:Nat) (h:i<l0.length) (l:List α),l.length=l0.length->l[i]? =some l0[i]->f ((i:Int),l,n)=some (.inl ((i:Int)+1,l.set i (g l0[i]),n))) (j: ∀l,f ((l0.length:Int),l,n)=some (.inr (out (l,n)))):rC f ((0:Int),l0,n)=some (out (l0.map g,n)):=by
 have:=a5y out g hf j l0.length 0 pN;simpa using this
def a5A {t:Ty}{l:List t.den}{i:Nat}{x:t.den}(h:l[i]? =some x):qI t l (i:Int)=x:=by
 unfold qI;rw[aOV,aOF,h];rfl
def a5B {k:Int}{t n st:pJ}{cs:List rO}{ps:List qG}(h:yW k t n st cs ps=true) (hk:k=11\/(7<=k/\k<=9)):t=[]/\st=[]:=by
 unfold yW at h;rw[aOi pN,aOi pN,aOd pN] at h;simp only[aOo,aOt] at h;have j:=h.1.1.1.1;unfold V0 at j;rw[aOi pN,aOi pN,aOi pN] at j;exact⟨h.1.1.2,by simpa using j⟩
def jf {d:Nat}{c:Bool}{k:Int}{t n st:pJ}{cs:List rO}{ps:List qG}(h:BM d c (.mk k t n st cs ps)=true) (hp:xC (.mk k t n st cs ps)=false):
  t=[]/\st=[]/\((k=11/\cs=[]/\tS (d+1) c false ps=true)\/((7<=k/\k<=9)/\ps=[]/\yJ k (d+1) (c|| !decide (k=9)) [] cs=true)):=by
 rw[iz] at h;simp only[aOo] at h;obtain⟨⟨z,_⟩,j⟩:=h;rw[Ak] at hp;rcases a5n z with⟨hk,rfl,rfl,rfl⟩ |⟨rfl,D,rfl⟩ |⟨k2,k6,D,rfl,rfl⟩ |⟨k7,k9,D,rfl⟩
 .rw[V3,YD] at hp;simp at hp;omega
 .rw[aOd rfl] at j;simp only[aOo] at j;obtain⟨a,b⟩:=a5B z (.inl rfl);exact⟨a,b,.inl ⟨rfl,rfl,j.2⟩⟩
 .rw[V3,YD] at hp;simp at hp;omega
 rw[aOi pN,aOd ⟨k7,k9⟩] at j;simp only[aOo] at j;obtain⟨a,b⟩:=a5B z (.inr ⟨k7,k9⟩);exact⟨a,b,.inr ⟨⟨k7,k9⟩,rfl,j.2.2.1⟩⟩
def jg {k:Int}{d:Nat}{c:Bool}{x:rO}: ∀{l:List rO}{keys:List rW},yJ k d c keys l=true->x∈l->tS d c false x.2.1=true
 |y::l,keys,h,j=>by
  rw[Ac] at h;simp only[aOo] at h;rcases aOv.1 j with rfl|j
  .exact h.2.1
  exact jg h.2.2 j
def jh {d:Nat}{c:Bool}{p:qG}: ∀{l:List qG}{b:Bool},tS d c b l=true->p∈l->BM d c p=true
 |y::l,b,h,j=>by
  rw[YA] at h;simp only[aOo] at h;rcases aOv.1 j with rfl|j
  .exact h.2.1
  exact jh h.2.2 j
def a5C: ∀(k N:Nat) (ps:List qG),sI ps<=k->k<=98->2*k+2<=N->wL ps<=1000000000->∀(d:Nat) (c b:Bool),tS d c b ps=true->(BE N).2 ps=some (w8 ps)
 |k,N,ps,hd,hk,hN,Z,d,c,b,hf=>by
  obtain⟨N,rfl⟩: ∃k,N=k+2:=⟨N-2,pN⟩;show T9 (KH (BE N).1 (BE N).2) (BE (N+1)).2 ps=_;unfold T9;have he:=CC ps;have hX: ∀p:qG,(FU p).length<=1:=λp=>by unfold FU;split<;>simp
  rw[Ao];have:=xB (f:=OO ps (KH (BE N).1 (BE N).2)) (l:=ps) (λj b=>(b,j)) (λb=>b) FU (M:=10000000000) (λi h b K=>by
   have E:=B1 (aOm h);have Q:=yV (aOm h);have R:=a5t (ps:=ps) pN Z (aOm h);have F:=jh hf (aOm h);unfold OO;dsimp only;have I:qH ((i:Int)+1):=s5 pN;rw[YB h,aOd (sG h),aOd (rP h),R,aOc];simp only[aOd I];unfold FU at K|-;cases Y:ps[i] with
   |mk k' t n st cs ps'=>
    rw[Y] at E K F;have⟨o1,o2,o3⟩:=DK (aOU E hd) pN;rw[Y,vS] at Q;have ih: ∀qs:List qG,sI qs+1<=k->wL qs<=1000000000->∀(d:Nat) (c b:Bool),tS d c b qs=true->(BE N).2 qs=some (w8 qs):=λqs h1 h2 d c b h3=>by
     cases k with
     |zero=>omega
     |succ k=>exact a5C k N qs pN pN pN h2 d c b h3
    cases D:xC (qG.mk k' t n st cs ps') with
    |true=>rw[aOi (show¬(!true)=true by decide),aOd rfl,List.append_nil]
    |false=>
     rw[D,aOi (show¬false=true by simp)] at K;obtain⟨rfl,rfl,hu⟩:=jf F D;have O:KH (BE N).1 (BE N).2 (k',(([]:pJ),(n,(([]:pJ),(cs,(ps',()))))))=some (EZ cs,w8 ps'):=by
      unfold KH;dsimp only;rcases hu with⟨rfl,rfl,V⟩ |⟨U,rfl,X⟩
      .rw[aOd (show (!(((7:Int)<=11)&&((11:Int)<=9)))=true by decide),ih ps' o3 pN _ _ _ V,aOc,An]
      rw[aOi (show¬(!((7<=k')&&decide (k'<=9)))=true by simp [U])];have hh:=BL cs;have G:=a5z (f:=ON cs (BE N).2) (l0:=cs) (n:=cs.length) (λx=>x) YE (λj z l hl hg=>by
       have hc:=jg X (aOm z);unfold ON;dsimp only;rw[a5A (t:=rV) hg,aOd (sG z),aOd (rP z),ih _ (by have:=CB (aOm z);omega) (by have:=yI (aOm z);omega) _ _ _ hc,aOc,aOd (rP z),aOd (s5 pN),aOV];rfl) (λl=>by
       unfold ON;dsimp only;rw[aOi (sL _)])
      unfold O2;rw[aOd pN,aOc,List.nil_append,G,Am,Ap];rfl
     rw[aOd (show (!false)=true by decide),show qG.un (qG.mk k' [] n [] cs ps')=(k',(([]:pJ),(n,(([]:pJ),(cs,(ps',())))))) from rfl,O,aOc,aOd (by simp only[aOe,aOh] at K|-;omega),aOi (show¬false=true by simp),Al];rfl) (λb=>by
   unfold OO;dsimp only;rw[aOi (sL _)]) [] (by have:=A8 (l:=ps) (λp _=>hX p);simp only[aOh];omega)
  rw[this];rfl
def ji {c:Bool}{ps:List qG}(h:xV c ps=true):tS 1 c false ps=true:=by
 unfold xV at h;simp only[aOo] at h;exact h.1.1
def aJO {ps:List qG}(z:sI ps<=98) (j:wL ps<=1000000000) (hv:xV false ps=true):U5 ps=some (w8 ps,0):=by
 unfold U5;rw[Ai z j,hv,aOc,aOi (show¬(!true)=true by decide),show XB ps=(BE 1000).2 ps from by rw[aEt],a5C 98 1000 ps z pN pN j _ _ _ (ji hv)];rfl
def vH (n:Nat):pJ:=Lib.itoa (n:Int)
def QL {n:Nat}(h:n<=1000000000):(vH n).length<=21:=Lib.itoa_length_le _ pN pN
def YF (n:Nat):vH n=Lib.decDigits n:=Lib.itoa_nonneg n
def a5D {q:Nat}(h:q<10):J7 (IntKind.wrap .i32 ((48:Int)+(q:Int)))=[UInt8.ofNat (48+q)]:=by
 rcases(show q=0\/q=1\/q=2\/q=3\/q=4\/q=5\/q=6\/q=7\/q=8\/q=9 by omega) with h|h|h|h|h|h|h|h|h|h<;>subst h<;>rfl
def a5E: ∀(k N n:Nat),n<10^k->n<=1000000000->k+1<=N->X2 N (n:Int)=some (vH n)
 |k,N,n,z,hb,E=>by
  obtain⟨N,rfl⟩: ∃k,N=k+1:=⟨N-1,pN⟩;show SR (X2 N) (n:Int)=_;unfold SR;rw[YF];by_cases j:n<10
  .rw[aOd pQ,aOd aQF,a5D j,Lib.decDigits,aP4 j]
  cases k with
  |zero=>simp at z;omega
  |succ k=>
   have e1:Int.tdiv (n:Int) (10:Int)=((n/10:Nat):Int):=by rw[Int.tdiv_eq_ediv_of_nonneg pN];rfl
   have e2:Int.tmod (n:Int) (10:Int)=((n%10:Nat):Int):=by rw[aPF pN];rfl
   have e3:IntKind.wrap .i64 ((n/10:Nat):Int)=((n/10:Nat):Int):=by rw[aPR];omega
   have D:=QL (n:=n/10) pN;rw[aOi pQ,e1,e2,e3,a5E k N (n/10) (by rw[Nat.pow_succ] at z;omega) pN pN,aOc,a5D pN,aOd aQF,aOd aQM,YF]
   conv=>rhs;rw[Lib.decDigits,aPN j]
def Ar {n:Nat}(h:n<=1000000000):NV (n:Int)=some (vH n):=by rw[aC2];exact a5E 10 1000 n pN h pN
def a5F: ∀(k N:Nat) (ps:List qG),sI ps<=k->k<=99->k+1<=N->wL ps<=1000000000->KJ N ps=some ps
 |k,N,ps,K,hk,Y,V=>by
  obtain⟨N,rfl⟩: ∃k,N=k+1:=⟨N-1,pN⟩;show TB (KJ N) ps=_;unfold TB;have R:=CC ps;have:=xB (f:=OR ps (KJ N)) (l:=ps) (λj b=>(b,j)) (λb=>b) (λp=>[p]) (M:=10000000000) (λi h b O=>by
   have D:=B1 (aOm h);have G:=yV (aOm h);unfold OR;dsimp only;rw[aOd (sG h),aOd (rP h)];cases F:ps[i] with
   |mk k' t n st cs ps'=>
    rw[F] at D;have⟨o1,o2,o3⟩:=DK (aOU D K) pN;rw[F,vS] at G;have U:=BL cs;have ih: ∀qs:List qG,sI qs+1<=k->wL qs<=1000000000->KJ N qs=some qs:=λqs Z Q=>by
     cases k with
     |zero=>omega
     |succ k=>exact a5F k N qs pN pN pN Q
    have E:=a5z (f:=OQ cs (KJ N)) (l0:=cs) (n:=cs.length) (λx=>x) (λx=>x) (λj z l X I=>by
     unfold OQ;dsimp only;rw[a5A (t:=rV) I,aOd (sG z),aOd (rP z),ih _ (by have:=CB (aOm z);omega) (by have:=yI (aOm z);omega),aOc,aOd (rP z),aOd (s5 pN),aOV]) (λl=>by
     unfold OQ;dsimp only;rw[aOi (sL _)])
    rw[xI h F];dsimp only;unfold O2;rw[ih ps' o3 pN,aOc,aOd pN,aOc,List.nil_append,E];unfold rD;rw[aOc];dsimp only;rw[List.map_id',aOd (by simp only[aOe,aOh] at O|-;omega),aOd (s5 pN)];rfl) (λb=>by
   unfold OR;dsimp only;rw[aOi (sL _)]) [] (by have:=A8 (l:=ps) (h:=λp=>[p]) (B:=1) (λ_ _=>by simp);simp only[aOh];omega)
  rw[this,J0,List.map_id'];rfl
def a5G {ps:List qG}(z:sI ps<=98) (j:wL ps<=1000000000):I4 ps=some ps:=by rw[aEF];exact a5F 98 1000 ps z pN pN j
mutual
def F0 (path:pJ):qG->List (pJ×List qG×Unit)
 | .mk k _ _ _ cs ps=>if k=11 then uM path [] 0 ps else FV path cs
termination_by p=>SizeOf.sizeOf p
def uM (path:pJ) (run:List qG) (n:Nat):List qG->List (pJ×List qG×Unit)
 |[]=>[(path++vH n,run,())]
 |p::l=>if xC p=true then uM path (run++[p]) n l else[(path++vH n,run,())]++(F0 (path++vH (n+1)++[47]) p++uM path [] (n+1) l)
termination_by l=>SizeOf.sizeOf l
def FV (path:pJ):List (pJ×List qG×Unit)->List (pJ×List qG×Unit)
 |[]=>[]
 |(k,ps,_)::l=>uM (path++k++[47]) [] 0 ps++FV path l
termination_by l=>SizeOf.sizeOf l
end
def QM (path:pJ) (c:rO):List rO:=uM (path++c.1++[47]) [] 0 c.2.1
def QN {path:pJ}{k:Int}{t n st:pJ}{cs:List rO}{ps:List qG}:F0 path (.mk k t n st cs ps)=if k=11 then uM path [] 0 ps else FV path cs:=by rw[F0]
def YG {path:pJ}{run:List qG}{n:Nat}:uM path run n []=[(path++vH n,run,())]:=by rw[uM]
def YH {path:pJ}{run:List qG}{n:Nat}{p:qG}{l:List qG}:uM path run n (p::l)=if xC p=true then uM path (run++[p]) n l else[(path++vH n,run,())]++(F0 (path++vH (n+1)++[47]) p++uM path [] (n+1) l):=by rw[uM]
def As {path:pJ}:FV path []=[]:=by rw[FV]
def a5H {path:pJ}{x:rO}{l:List rO}:FV path (x::l)=QM path x++FV path l:=by obtain⟨a,b,u⟩:=x;rw[FV];rfl
def jj {path:pJ}: ∀l:List rO,FV path l=l.flatMap (QM path)
 |[]=>As
 |c::l=>by rw[a5H,aO8,jj l]
mutual
def a5I: ∀(p:qG) (path:pJ),(F0 path p).length+1<=wP p
 | .mk k t n st cs ps,path=>by
  have z:=QO ps path [] 0;have j:=jk cs path;rw[QN,vS];split<;>omega
termination_by p=>SizeOf.sizeOf p
def QO: ∀(l:List qG) (path:pJ) (run:List qG) (n:Nat),(uM path run n l).length<=1+wL l
 |[],path,run,n=>by rw[YG];simp
 |p::l,path,run,n=>by
  have D:=a5I p (path++vH (n+1)++[47]);have z:=QO l path [] (n+1);have j:=QO l path (run++[p]) n;rw[YH,CA];split
  .omega
  simp only[aOg,aOe,aOh];omega
termination_by l=>SizeOf.sizeOf l
def jk: ∀(l:List (pJ×List qG×Unit)) (path:pJ),(FV path l).length<=wC l
 |[],path=>by rw[As];simp
 |(k,ps,u)::l,path=>by
  have z:=QO ps (path++k++[47]) [] 0;have j:=jk l path;rw[a5H,LI,aOg];unfold QM;dsimp only;omega
termination_by l=>SizeOf.sizeOf l
end
def a5J (D W:Nat) (c:rO):Prop:=sI c.2.1<=D/\wL c.2.1<=W
mutual
def aJP: ∀(p:qG) (path:pJ) (D W:Nat),EW p<=D->wP p<=W->∀c∈F0 path p,a5J D W c
 | .mk k t n st cs ps,path,D,W,z,j=>by
  have h0:1<=(if zN k st cs=true then 1 else 100):=by split<;>omega
  rw[Y1] at z;rw[vS] at j;rw[QN];split
  .exact jl ps path [] 0 D W (by rw[FR];omega) pN aQP
  exact zq16 cs path D W pN pN
termination_by p=>SizeOf.sizeOf p
def jl: ∀(l:List qG) (path:pJ) (run:List qG) (n D W:Nat),sI run<=D->sI l<=D->wL run+wL l<=W->∀c∈uM path run n l,a5J D W c
 |[],path,run,n,D,W,hr,E,z,c,j=>by
  rw[YG,aOs] at j;subst j;exact⟨hr,by dsimp only;omega⟩
 |p::l,path,run,n,D,W,hr,E,z,c,j=>by
  rw[IR] at E;rw[CA] at z;rw[YH] at j;split at j
  .exact jl l path (run++[p]) n D W (by rw[zj];omega) pN (by rw[ie];omega) c j
  rcases aOR.1 j with j|j
  .rw[aOs] at j;subst j;exact⟨hr,by dsimp only;omega⟩
  rcases aOR.1 j with j|j
  .exact aJP p _ D W pN pN c j
  exact jl l path [] (n+1) D W (by rw[FR];omega) pN aQP c j
termination_by l=>SizeOf.sizeOf l
def zq16: ∀(l:List (pJ×List qG×Unit)) (path:pJ) (D W:Nat),zO l<=D->wC l<=W->∀c∈FV path l,a5J D W c
 |[],path,D,W,_,_,c,j=>by rw[As] at j;cases j
 |(k,ps,u)::l,path,D,W,E,z,c,j=>by
  rw[ic] at E;rw[LI] at z;rw[a5H] at j;dsimp only at E z;rcases aOR.1 j with j|j
  .exact jl ps _ [] 0 D W (by rw[FR];omega) pN aQP c j
  exact zq16 l path D W pN pN c j
termination_by l=>SizeOf.sizeOf l
end
def jm {σ ρ:Type}{f:σ->Option (σ⊕ρ)}(st:List rO->List qG->Int->Int->σ) (out:List rO->List qG->Int->ρ) {l:List qG}{path:pJ}{M:Nat}
  (E: ∀(i:Nat) (h:i<l.length) (o:List rO) (run:List qG) (n:Nat),n<=i->run.length<=i->(∀p∈run,p∈l)->wL run<=wL l->o.length+wP l[i]<=M->f (st o run (n:Int) (i:Int))=some (.inl (if xC l[i]=true then st o (run++[l[i]]) (n:Int) ((i:Int)+1) else st ((o++[(path++vH n,run,())])++F0 (path++vH (n+1)++[47]) l[i]) [] (((n+1:Nat)):Int) ((i:Int)+1))))
  (G: ∀o run n,f (st o run n (l.length:Int))=some (.inr (out o run n))):
  ∀(m j:Nat) (o:List rO) (run:List qG) (n:Nat),j+m=l.length->n<=j->run.length<=j->(∀p∈run,p∈l)->wL run+wL (l.drop j)<=wL l->o.length+wL (l.drop j)<=M->
  ∃(o':List rO) (run':List qG) (n':Nat),rC f (st o run (n:Int) (j:Int))=some (out o' run' (n':Int))/\o'++[(path++vH n',run',())]=o++uM path run n (l.drop j)/\n'<=l.length/\(∀p∈run',p∈l)/\wL run'<=wL l/\o'.length<=M
 |0,j,o,run,n,K,F,hr,hm,D,I=>by
  have:j=l.length:=by omega
  subst this;rw[aOQ,BK] at D I;refine⟨o,run,n,xY (G _ _ _),?_,F,hm,pN,pN⟩;rw[aOQ,YG]
 |m+1,j,o,run,n,K,F,hr,hm,D,I=>by
  have z:j<l.length:=by omega
  rw[aOx z,CA] at D I;rw[aOx z,YH];have hst:=E j z o run n F hr hm pN pN;by_cases hp:xC l[j]=true
  .rw[aOd hp] at hst|-;rw[AJ hst,show ((j:Int)+1)=((j+1:Nat):Int) by omega];exact jm st out E G m (j+1) o (run++[l[j]]) n pN pN aQM (λp hp=>by
    rcases aOR.1 hp with h|h
    .exact hm p h
    rw[aOs] at h;rw[h];exact aOm z) (by rw[ie];omega) pN
  rw[aOi hp] at hst|-;have O:=a5I l[j] (path++vH (n+1)++[47]);obtain⟨o',run',n',e1,e2,e3⟩:=jm st out E G m (j+1) ((o++[(path++vH n,run,())])++F0 (path++vH (n+1)++[47]) l[j]) [] (n+1) pN pN pP (λp hp=>by cases hp) aQP aQS;rw[AJ hst,show ((j:Int)+1)=((j+1:Nat):Int) by omega];exact⟨o',run',n',e1,by rw[e2];simp only[aOk],e3⟩
def At {D:Nat}{l:List qG}(z:sI l<=D): ∀{run:List qG},(∀p∈run,p∈l)->sI run<=D
 |[],_=>by rw[FR];omega
 |p::r,h=>by
  rw[IR];have F:=B1 (h p aOz);have E:=At z (run:=r) λq j=>h q (aOu _ j);omega
section
variable {l:List qG}{G:List qG->pJ->Option (List rO)}{i:Nat}{k:Int}{t n st:pJ}{cs:List rO}{ps:List qG}
def a5K (hi:i<l.length) (E:l[i]= .mk k t n st cs ps) {path num:pJ}{P:Nat}(hP:P<=1000000000000) (D: ∀x∈cs,∀path:pJ,path.length<=P->G x.2.1 path=some (uM path [] 0 x.2.1)) (R:wC cs<=1000000000) (hp:path.length+num.length+2+wC cs<=P) (x:List rO) (Q:x.length<=10000000000):
  rC (KB l path (i:Int) num G) (x,0)=some (x++FV (path++num++[47]) cs):=by
 have F:=BL cs;have z:=jk cs (path++num++[47]);rw[jj] at z|-;refine xB (f:=KB l path (i:Int) num G) (l:=cs) (λj b=>(b,j)) (λb=>b) (QM (path++num++[47])) (M:=100000000000) (λj h b K=>?_) (λb=>?_) x pN
 .have O:=yI (aOm h);have I:=D cs[j] (aOm h) (path++num++[47]++(cs[j]).1++[47]) aQS;unfold KB;dsimp only;rw[xI hi E];dsimp only;rw[uX (t:=rV) h,aOd (sG h),aOd (rP h),aOd (rP h),aOd aQS,aOd aQS,I,aOc,aOd (by unfold QM at K;omega),aOd (s5 pN)];rfl
 unfold KB;dsimp only;rw[xI hi E];dsimp only;rw[aOi (sL _)]
end
def a5L: ∀(k N:Nat) (ps:List qG),sI ps<=k->k<=98->k+1<=N->wL ps<=1000000000->∀(d:Nat) (c b:Bool),tS d c b ps=true->∀path:pJ,path.length<=2000000000*(60-k)->k<=20->FJ N ps path=some (uM path [] 0 ps)
 |k,N,ps,hd,hk,hN,hw,d,c,b,hf,path,hp,Y=>by
  obtain⟨N,rfl⟩: ∃k,N=k+1:=⟨N-1,pN⟩;show SW (FJ N) ps path=_;unfold SW;have he:=CC ps;obtain⟨o',run',n',e1,e2,e3,e4,e5,e6⟩:=jm (f:=KC ps path (FJ N)) (λo run n i=>(o,run,n,i)) (λo run n=>(o,run,n)) (l:=ps) (path:=path) (M:=2000000000) (λi h o run n hn hr hm hc D=>by
   have E:=B1 (aOm h);have O:=yV (aOm h);have R:=a5v (ps:=ps) pN hw h;have F:=jh hf (aOm h);have I:qH ((i:Int)+1):=s5 pN;unfold KC;dsimp only;rw[aOd (sG h),aOd (rP h),aOd (s5 pN),aOd ⟨pN,pN,pN⟩,R,aOc,YB h,qG.of_un];simp only[aOd I];cases K:ps[i] with
   |mk k' t n2 st cs ps'=>
    rw[K] at E D F;have⟨o1,o2,o3⟩:=DK (aOU E hd) pN;rw[K,vS] at O;cases Q:xC (qG.mk k' t n2 st cs ps') with
    |true=>
     rw[aOd rfl,aOd rfl,aOd aQN]
    |false=>
     have ih: ∀qs:List qG,sI qs+1<=k->wL qs<=1000000000->∀(d:Nat) (c b:Bool),tS d c b qs=true->∀path:pJ,path.length<=2000000000*(60-k)+2000000000->FJ N qs path=some (uM path [] 0 qs):=λqs h1 h2 d c b h3 path hp=>by
      cases k with
      |zero=>omega
      |succ k=>exact a5L k N qs pN pN pN h2 d c b h3 path pN pN
     have U:=QL (n:=n) pN;have Z:=QL (n:=n+1) pN;obtain⟨rfl,rfl,hu⟩:=jf F Q;rw[aOi (show¬false=true by simp),aOi (show¬false=true by simp),Ar (n:=n) pN,aOc,aOd aQU,aOd (by rw[vS] at D;simp only[aOe,aOh];omega),aOd aQF,show ((n:Int)+1)=((n+1:Nat):Int) by omega,Ar (n:=n+1) pN,aOc,aOd aQU,aOd aQS];unfold rD;rw[show qG.un (qG.mk k' [] n2 [] cs ps')=(k',(([]:pJ),(n2,(([]:pJ),(cs,(ps',())))))) from rfl];dsimp only;rcases hu with⟨rfl,rfl,V⟩ |⟨hh,rfl,X⟩
     .have hg:=QO ps' (path++vH (n+1)++Qa7) [] 0;have j:=a5K (G:=FJ N) (path:=path) (num:=vH (n+1)) h K (P:=1000000000000) pN (λx z=>by cases z) (by rw[EX];omega) (by rw[EX];omega) ((o++[(path++vH n,run,())])++uM (path++vH (n+1)++Qa7) [] 0 ps') aQV;rw[As,List.append_nil] at j;rw[aOd (xH rfl),ih ps' o3 pN _ _ _ V _ aQS,aOc,aOd aQV,aOc,j,aOc,QN,aOd rfl]
     have j:=a5K (G:=FJ N) (path:=path) (num:=vH (n+1)) h K (P:=2000000000*(60-k)+2000000000) pN (λx z path hp=>ih x.2.1 (by have:=CB z;omega) (by have:=yI z;omega) _ _ _ (jg X z) path hp) pN pN (o++[(path++vH n,run,())]) aQV;rw[aOi (show¬decide (k'=11)=true by simp;omega),aOc,j,aOc,QN,aOi pN]) (λo run n=>by
   unfold KC;dsimp only;rw[aOi (sL _)]) ps.length 0 [] [] 0 pN pN pP (λp hp=>by cases hp) (by rw[aOP,BK];omega) (by rw[aOP];simp only[aOh];omega)
  rw[aOP,List.nil_append] at e2;have U:=QL (n:=n') pN;unfold rD;rw[show rC (KC ps path (FJ N)) (([]:List rO),([]:List qG),(0:Int),(0:Int))=_ from e1,aOc];dsimp only;rw[Ar (n:=n') pN,aOc,aOd aQU,aOd aQN,e2]
end Go.Proofs.YtedimeeleabhnaaGreatDoor
namespace Go.Proofs.YtedimeeleabhnaaGreatDoor
open Vc
abbrev LFT:Type:=LK->pJ->List rO->Option (List rO)
def aJR {k:Nat}{ps:List qG}(Y:sI ps<=k) (hk:k<=98) (K:wL ps<=1000000000) {d:Nat}{c b:Bool}(hf:tS d c b ps=true) {GL:LFT}{P:Nat}(hP:P<=1000000000000) {path:pJ}(hp:path.length+23<=P)
    (Q: ∀p∈ps,xC p=false->∀(path:pJ) (o:List rO),path.length<=P->o.length<=P+1000000002->GL (qG.un p) path o=some (o++F0 path p)) (out:List rO) (V:out.length<=P):
    (rD (rC (I5 ps path GL) (([]:List qG),(0:Int),(0:Int),out)) fun(O,a8,aA)=>
 if-9223372036854775808<=a8/\a8<=9223372036854775807 then
  if ((path++(Lib.itoa a8)).length:Int)<=9223372036854775807 then
   (I4 O).bind λaB=>
   if (aA.length+([((path++(Lib.itoa a8)),(aB,()))]:List rO).length)*40<=140737488355328 then
    some ((aA++([((path++(Lib.itoa a8)),(aB,()))]:List rO)))
   else none
  else none
 else none)=some (out++uM path [] 0 ps):=by
  have U:=CC ps
  obtain⟨o',run',n',e1,e2,e3,e4,e5,e6⟩:=jm (f:=I5 ps path GL) (λo run n i=>(run,n,i,o)) (λo run n=>(run,n,o)) (l:=ps) (path:=path) (M:=P+1000000001) (λi h o run n X hr hm R Z=>by
    have F:=a5t (ps:=ps) pN K (aOm h);have G:=a5G (ps:=run) (At pN hm) pN;have D:qH ((i:Int)+1):=s5 pN;have j:=QL (n:=n) pN;have z:=QL (n:=n+1) pN;unfold vH at j z;unfold I5;dsimp only;rw[YB h,aOd (sG h),aOd (rP h),F,aOc,qG.of_un];simp only[aOd D];cases E:xC ps[i] with
    |true=>rw[aOd rfl,aOd rfl,aOd aQN]
    | false=>
      have I:=a4Q ps[i];rw[aOi (show¬false=true by simp),aOi (show¬false=true by simp),aOd ⟨pN,pN⟩,aOd aQU,G,aOc,aOd aQN,aOd aQF,aOd ⟨pN,pN⟩,show ((n:Int)+1)=((n+1:Nat):Int) by omega,aOd aQU,aOd aQS,Q _ (aOm h) E _ _ aQS aQS,aOc];rfl) (λo run n=>by
    unfold I5;dsimp only;rw[aOi (sL _)]) ps.length 0 out [] 0 pN pN pP (λp hp=>by cases hp) (by rw[aOP,BK];omega) (by rw[aOP];omega)
  rw[aOP] at e2;have j:=QL (n:=n') pN;unfold vH at j;unfold rD;rw[show rC (I5 ps path GL) (([]:List qG),(0:Int),(0:Int),out)=_ from e1,aOc];dsimp only;rw[aOd ⟨pN,pN⟩,aOd aQU,a5G (At pN e4) pN,aOc,aOd aQN,<-e2];rfl
def aJS {k':Int}{t n st:pJ}{cs:List rO}{ps:List qG}{GV:List qG->pJ->List rO->Option (List rO)}{g1 g2}{d:Nat}{c:Bool}{P:Nat}(hP:P<=1000000000000) (G:BM d c (.mk k' t n st cs ps)=true) (D:xC (.mk k' t n st cs ps)=false)
    (z: ∀(d:Nat) (c b:Bool),tS d c b ps=true->∀(path:pJ) (o:List rO),path.length<=P->o.length<=P->GV ps path o=some (o++uM path [] 0 ps))
    (O: ∀x∈cs,∀(d:Nat) (c b:Bool),tS d c b x.2.1=true->∀(path:pJ) (o:List rO),path.length<=P->o.length<=P->GV x.2.1 path o=some (o++uM path [] 0 x.2.1))
    (Y:64+t.length+n.length+st.length+wC cs+wL ps<=1000000000) (path:pJ) (o:List rO) (hp:path.length+1000000001<=P) (Z:o.length+1000000000<=P):
    TC g1 g2 GV (k',(t,(n,(st,(cs,(ps,())))))) path o=some (o++F0 path (.mk k' t n st cs ps)):=by
  have Q:=BL cs;obtain⟨rfl,rfl,R⟩:=jf G D;unfold TC;dsimp only;rw[QN];rcases R with⟨rfl,rfl,I⟩ |⟨F,rfl,K⟩
  .rw[aOd (show (!(((7:Int)<=11)&&((11:Int)<=9)))=true by decide),z _ _ _ I _ _ pN pN,aOc,aOd rfl]
  rw[aOi (show¬(!((7<=k')&&(k'<=9)))=true by simp [F]),aOi pN,jj]
  have E:=jk cs path;rw[jj] at E
  have:=xB (f:=OS (k',(([]:pJ),(n,(([]:pJ),(cs,(([]:List qG),())))))) path GV) (l:=cs) (λj b=>(j,b)) (λb=>b) (QM path) (M:=o.length+wC cs) (λj h b U=>by
    have V:=yI (aOm h);have X:=QO (cs[j]).2.1 (path++(cs[j]).1++[47]) [] 0;unfold OS;dsimp only;rw[uX (t:=rV) h,aOd (sG h),aOd (rP h),aOd aQU,aOd aQS,O _ (aOm h) _ _ _ (jg K (aOm h)) _ _ aQS (by unfold QM at U;omega),aOc,aOd (s5 pN)];rfl) (λb=>by
    unfold OS;dsimp only;rw[aOi (sL _)]) o pN
  rw[this];rfl
def a5M: ∀(k N:Nat) (ps:List qG),sI ps<=k->k<=20->3*k+3<=N->wL ps<=1000000000->∀(d:Nat) (c b:Bool),tS d c b ps=true->∀(path:pJ) (o:List rO),path.length<=3000000000*(60-k)->o.length<=3000000000*(60-k)->(zC N).1 o ps path=some (o++uM path [] 0 ps)
  | k,N,ps,O,hk,V,Q,d,c,b,hf,path,o,hp,R=>by
    obtain⟨N,rfl⟩: ∃k,N=k+3:=⟨N-3,pN⟩;show I6 (zC (N+2)).1 (zC (N+2)).2.1 (zC (N+2)).2.2 o ps path=_;unfold I6
    have ih: ∀qs:List qG,sI qs+1<=k->wL qs<=1000000000->∀(d:Nat) (c b:Bool),tS d c b qs=true->∀(path:pJ) (o:List rO),path.length<=3000000000*(60-k)+3000000000->o.length<=3000000000*(60-k)+3000000000->TD (zC N).1 (zC N).2.1 (zC N).2.2 qs path o=some (o++uM path [] 0 qs):=λqs X U d c b z path o E D=>by
      unfold TD;cases k with
      |zero=>omega
      |succ k=>rw[a5M k N qs pN pN pN U d c b z path o pN pN];rfl
    refine aJR O pN Q hf (P:=3000000000*(60-k)+23) pN pN (λp j G path o hp R=>?_) o pN;have I:=B1 j;have F:=yV j;have K:=jh hf j;obtain⟨k',t,n,st,cs,ps'⟩:=p;have⟨o1,o2,o3⟩:=DK (aOU I O) pN;rw[vS] at F;exact aJS (g1:=(zC (N+1)).1) (g2:=(zC (N+1)).2.1) (P:=3000000000*(60-k)+3000000000) pN K G (λd c b z path o E D=>ih ps' o3 pN d c b z path o E D) (λx M d c b z path o E D=>ih x.2.1 (by have:=CB M;omega) (by have:=yI M;omega) d c b z path o E D) pN path o pN pN
def aJT (ps:List qG) (path:pJ):TG ps path=I6 ff TE fg [] ps path:=by rw[TG.eq_1,I6.eq_1]<;>rfl
def aJU {ps:List qG}(z:sI ps<=15) (j:wL ps<=1000000000) (hv:xV false ps=true):U3 ps=some (uM [] [] 0 ps,0):=by
  unfold U3;have h:=a5M 15 1001 ps z pN pN j _ _ _ (ji hv) [] [] pP pP;rw[Ai pN j,hv,aOc,aOi (show¬(!true)=true by decide),aJT,show I6 ff TE fg [] ps []=(zC 1001).1 [] ps [] from by rw[aEK,aEN,aEO];rfl,h];rfl
def aJV {ps:List qG}(z:sI ps<=15) (j:wL ps<=1000000000) (hv:xV false ps=true):TY ps=some (uM [] [] 0 ps,0):=by
  unfold TY;have h:=a5L 15 1000 ps z pN pN j _ _ _ (ji hv) [] pP pN;rw[Aj pN j,hv,aOc,aOi (show¬(!true)=true by decide),show X5 ps []=FJ 1000 ps [] from by rw[aDy],h];rfl
def aJW:((List.range 256).all λb=>[true,false].all λf=>decide (O6 2 (b:Int) f=some (Q6 2 b f))&&(decide (SZ 2 (b:Int) f=some (Q6 2 b f))&&decide ((Q6 2 b f).length<=6)))=true:=by kernel_rfl
def Au {b:Nat}(hb:b<256) (f:Bool):O6 2 (b:Int) f=some (Q6 2 b f)/\SZ 2 (b:Int) f=some (Q6 2 b f)/\(Q6 2 b f).length<=6:=by
 have hf:f∈[true,false]:=by cases f<;>simp
 have h:=aPh.1 (aPh.1 aJW b aQo) f hf;simpa using h
def Av (s:pJ) (i:Nat):(XU 2 s i).length<=6:=(Au (UInt8.toNat_lt _) _).2.2
def aJX (s:pJ):(UM 2 s).length<=6*s.length:=by
 have:=a3L (g:=XU 2 s) (B:=6) s.length 0 λj _ _=>Av s j;unfold UM;omega
def aJY {s:pJ}(j:fit s):TH (2:Int) s=some (UM 2 s):=by
 unfold fit at j;have h:=a3M (f:=OV (2:Int) s) (λi b=>(i,b)) (λb=>b) (n:=s.length) (M:=10000000000000) (B:=6) (λi=>tK (XU 2 s i)) (λi _=>by rw[xS];exact Av s i) [] pQ (λi b hi z=>by
  obtain⟨e1,_,e3⟩:=Au (UInt8.toNat_lt (s.getD i 0)) (decide (i=0));unfold OV;dsimp only;rw[aOd (sG hi),aOi (show¬decide ((2:Int)=4)=true by decide),aOd (rP hi),a3N,a3O,e1,aOc];unfold HY;rw[aOd (by dsimp only;omega),aOc,aOd (s5 pN)];rfl) (λb=>by
  unfold OV;dsimp only;rw[aOi (sL _)])
 unfold TH;rw[aOi pO,h,a3P];unfold rD;rw[aOc,List.nil_append,Q5];rfl
def a5N {s:pJ}(j:fit s):T8 (2:Int) s=some (UM 2 s):=by
 unfold fit at j;have h:=a3M (f:=OM (2:Int) s) (λi b=>(b,i)) (λb=>b) (n:=s.length) (M:=10000000000000) (B:=6) (λi=>tK (XU 2 s i)) (λi _=>by rw[xS];exact Av s i) [] pQ (λi b hi z=>by
  obtain⟨_,e2,e3⟩:=Au (UInt8.toNat_lt (s.getD i 0)) (decide (i=0));unfold OM;dsimp only;rw[aOd (sG hi),aOd (rP hi),a3N,a3O,e2,aOc,aOd pN,aOd (s5 pN)];rfl) (λb=>by
  unfold OM;dsimp only;rw[aOi (sL _)])
 unfold T8;rw[aOi pO,h,a3P];unfold rD;rw[aOc,List.nil_append,Q5];rfl
def DM:pK->pJ
 |[]=>[]
 |x::r=>x++r.flatMap (λy=>[32]++y)
def a5O: ∀l:pK,FG l [32]=DM l
 |[]=>rfl
 |x::r=>by
  show Lib.join (x::r) [32]=_;rw[Lib.join_cons];show x++(r.map ([32]++ ·)).flatten=x++r.flatMap (λy=>[32]++y);rw[List.flatMap_def]
def a5P {α:Type}{f:(pJ×Int)->Option ((pJ×Int)⊕pJ)}{l:List α}(g:α->pJ) {M:Nat}
  (hf: ∀(i:Nat) (h:i<l.length) (s:pJ),0<i->s.length+(1+(g l[i]).length)<=M->f (s,(i:Int))=some (.inl (s++([32]++g l[i]),(i:Int)+1)))
  (D: ∀s,f (s,(l.length:Int))=some (.inr s)): ∀(m j:Nat) (s:pJ),j+m=l.length->0<j->s.length+((l.drop j).flatMap λy=>[32]++g y).length<=M->rC f (s,(j:Int))=some (s++(l.drop j).flatMap λy=>[32]++g y)
 |0,j,s,F,_,_=>by
  have:j=l.length:=by omega
  subst this;rw[xY (D s),aOQ];simp
 |m+1,j,s,F,h0,E=>by
  have z:j<l.length:=by omega
  rw[aOx z,aO8] at E|-;simp only[aOg,aOe,aOh] at E;rw[AJ (hf j z s h0 pN),show ((j:Int)+1)=((j+1:Nat):Int) by omega,a5P g hf D m (j+1) _ pN pN aQS,aOk]
def a5Q {α:Type}{f:(pJ×Int)->Option ((pJ×Int)⊕pJ)}{l:List α}(g:α->pJ) {M:Nat}
  (h0: ∀(h:0<l.length),(g l[0]).length<=M->f ([],0)=some (.inl (g l[0],1)))
  (hf: ∀(i:Nat) (h:i<l.length) (s:pJ),0<i->s.length+(1+(g l[i]).length)<=M->f (s,(i:Int))=some (.inl (s++([32]++g l[i]),(i:Int)+1)))
  (z: ∀s,f (s,(l.length:Int))=some (.inr s)) (j:(DM (l.map g)).length<=M):rC f ([],0)=some (DM (l.map g)):=by
 cases l with
 |nil=>exact xY (z [])
 |cons x r=>
  have e:(r.map g).flatMap (λy=>[32]++y)=r.flatMap (λy=>[32]++g y):=by rw[List.flatMap_map]
  have es:DM (g x::r.map g)=g x++r.flatMap (λy=>[32]++g y):=by
   show g x++(r.map g).flatMap (λy=>[32]++y)=_;rw[e]
  rw[aO7,es] at j|-;rw[aOg] at j;have D:=h0 pP (by show (g x).length<=M;omega);rw[AJ D];exact a5P g hf z r.length 1 (g x) pQ pN j
def quo (x:pJ):pJ:=[34]++UM 2 x++[34]
def jn (x:pJ):(quo x).length<=2+6*x.length:=by
 have:=aJX x;unfold quo;simp only[aOg,aOe,aOh];omega
def a5R {l:pK}{B:Nat}(h: ∀x∈l,x.length<=B):(DM l).length<=l.length*(B+1):=by
 cases l with
 |nil=>simp [DM]
 |cons x r=>
  have D:=h x aOz;have z:=A8 (l:=r) (h:=λy=>[32]++y) (B:=B+1) λy j=>by
   have:=h y (aOu _ j);simp only[aOg,aOe,aOh];omega
  unfold DM;rw[aOg,aOe,aPd];omega
def FW (l:pK):pJ:=DM (l.map quo)
def a5S {l:pK}(h:IM l):(FW l).length<=300000000:=by
 have:=a5R (l:=l.map quo) (B:=36002) λx z=>by
  obtain⟨y,j,rfl⟩:=List.mem_map.1 z;have:=jn y;have:=h.2 y j;omega
 rw[aPa] at this;have D:=aPk 36003 h.1;unfold FW;omega
def a5T {l:pK}(h:IM l):P4 l=some (FW l):=by
 have F:=a5S h;have G:=h.1;have:=xB (f:=P3 l) (l:=l) (λj b=>(b,j)) (λb=>b) (λx=>[quo x]) (M:=1000000) (λi hi b E=>by
  have I:=h.2 l[i] (aOm hi);have D:=jn l[i];have z:=D;unfold quo at z;simp only[aOg,aOe,aOh] at z;unfold P3;dsimp only;rw[uX (t:= .str) hi,aOd (sG hi),aOd (rP hi),aJY aQT,aOc,aOd aQS,aOd aQS,aOd aQJ,aOd (s5 pN)];rfl) (λb=>by
  unfold P3;dsimp only;rw[aOi (sL _)]) [] (by
   have:=A8 (l:=l) (h:=λx=>[quo x]) (B:=1) (λ_ _=>by simp);simp only[aOh];omega)
 unfold P4 rD;rw[this,aOc,List.nil_append,J0,a5O,aOd ⟨by rw[aPa];omega,by show (FW l).length<=_;omega⟩];rfl
def a5U {l:pK}(h:IM l):P5 l=some (FW l):=by
 have z:=a5S h;have F:=h.1;have G: ∀i:Nat,(Qb2++UM 2 (l.getD i [])++[34])=quo (l.getD i []):=λ_=>rfl;have:=a5Q (f:=KO l) (l:=l) quo (M:=300000000) (λhi E=>by
  have D:=h.2 l[0] (aOm hi);have j:=jn l[0];unfold quo at j;simp only[aOg,aOe,aOh] at j;unfold KO rD;dsimp only;rw[show qI .str l (0:Int)=l[0] from uX (t:= .str) (i:=0) hi,aOd (show decide ((0:Int)<(l.length:Int))=true by simp;omega),aOi (show¬decide ((0:Int)<(0:Int))=true by decide),aOc,aOd aQS,aOd ⟨pN,pN⟩,a5N aQT,aOc,aOd aQS,aOd aQS,aOd aQF];rfl) (λi hi s h0 E=>by
  have D:=h.2 l[i] (aOm hi);have j:=jn l[i];unfold quo at j;simp only[aOg,aOe,aOh] at j;unfold KO rD;dsimp only;rw[uX (t:= .str) hi,aOd (sG hi),aOd (show decide ((0:Int)<(i:Int))=true by simp;omega),aOd aQS,aOc,aOd aQS,aOd (rP hi),a5N aQT,aOc,aOd aQS,aOd aQS,aOd (s5 pN)];unfold quo;simp only[aOk]) (λs=>by
  unfold KO;dsimp only;rw[aOi (sL _)]) z
 unfold P5 rD;rw[this];rfl
def a5V {l:pK}(h:IM l):SM l=some (DM l)/\(DM l).length<=40000000:=by
 have E:=h.1;have D:=a5R (l:=l) (B:=6000) h.2;have F:=aPk 6001 h.1;have:=a5Q (f:=JZ l) (l:=l) (λx=>x) (M:=300000000) (λhi z=>by
  have j:=h.2 l[0] (aOm hi);unfold JZ;dsimp only;rw[show qI .str l (0:Int)=l[0] from uX (t:= .str) (i:=0) hi,aOd (show decide ((0:Int)<(l.length:Int))=true by simp;omega),aOi (show¬decide ((0:Int)<(0:Int))=true by decide),aOd ⟨pN,pN⟩,aOd (by rw[List.nil_append];omega),aOd aQF];rfl) (λi hi s h0 z=>by
  have j:=h.2 l[i] (aOm hi);unfold JZ;dsimp only;rw[uX (t:= .str) hi,aOd (sG hi),aOd (show decide ((0:Int)<(i:Int))=true by simp;omega),aOd aQS,aOd (rP hi),aOd aQS,aOd (s5 pN),aOk]) (λs=>by
  unfold JZ;dsimp only;rw[aOi (sL _)]) (by rw[List.map_id'];omega)
 rw[List.map_id'] at this;unfold SM rD;rw[this];exact⟨rfl,pN⟩
abbrev tT:Type:=(Int×pJ×pJ×Unit)×pJ×Bool×Unit
def tM (k:Int) (id path v:pJ):tT:=((k,(id,(path,()))),(v,(false,())))
def F1 {b:List tT}(h:b.length<=1000000000) (k:Int) (id path v:pJ):A5 (b,()) k id path v=some ():=by
 unfold A5;exact aOd aQN
structure a5W (id:pJ) (A:List tT):Prop where
 len:A.length<=50000000
 kind: ∀a∈A,(a.1.1=10\/a.1.1=11)/\a.1.2.1=id/\a.2.2.1=false
def aJZ (id s:pJ) (K:s.length<=6000): ∃A,a5W id A/\IJ id s=some A/\(∀b:List tT,b.length<=500000000->L1 (b,()) id s=some (b++A))/\
  (A=[tM 10 id [] ([61]++s)]\/∃v ps,sI ps<=9/\xV false ps=true/\A=[tM 10 id [] v]++(uM [] [] 0 ps).map λc=>tM 11 id c.1 (yK true c.2.1).1):=by
 obtain⟨b,F,E,I⟩:=aJH s;cases b with
 |false=>
  refine⟨[tM 10 id [] ([61]++s)],⟨by simp,λa ha=>?_⟩,?_,λb hb=>?_,.inl rfl⟩
  .rw[aOs] at ha;subst ha;exact⟨.inl rfl,rfl,rfl⟩
  .unfold IJ;rw[E,aOc,aOd (show (!false)=true by decide),aOd aQS];rfl
  .unfold L1;rw[F,aOc,aOd (show (!false)=true by decide),aOd aQS,F1 pN];rfl
 |true=>
  obtain⟨ps,x1,x2,x3,y1,y2,y3,k1,k2,k3,k4,k5,k6⟩:=I rfl;have G:=QO ps [] [] 0;have z:=jl ps [] [] 0 9 20000000 (by rw[FR];omega) k3 aQP;obtain⟨z1,z2⟩:=Aq ps;refine⟨[tM 10 id [] (yK false (w8 ps)).1]++(uM [] [] 0 ps).map λc=>tM 11 id c.1 (yK true c.2.1).1,⟨?_,λa ha=>?_⟩,?_,λb hb=>?_,.inr ⟨_,ps,k3,k5,rfl⟩⟩
  .simp only[aOg,aPa,aOe,aOh];omega
  .rcases aOR.1 ha with ha|ha
   .rw[aOs] at ha;subst ha;exact⟨.inl rfl,rfl,rfl⟩
   obtain⟨c,_,rfl⟩:=List.mem_map.1 ha;exact⟨.inr rfl,rfl,rfl⟩
  .have:=xB (f:=KX id (uM [] [] 0 ps,0)) (l:=uM [] [] 0 ps) (λj b=>(b,j)) (λb=>b) (λc=>[tM 11 id c.1 (yK true c.2.1).1]) (M:=1000000000) (λi h b D=>by
    obtain⟨q1,q2⟩:=z _ (aOm h);unfold KX;dsimp only;rw[uX (t:=rV) h,aOd (sG h),aOd (rP h),aJG pN pN,aOc,aOd (rP h),aOd (by simp only[aOe,aOh] at D|-;omega),aOd (s5 pN)];rfl) (λb=>by
    unfold KX;dsimp only;rw[aOi (sL _)]) [tM 10 id [] (yK false (w8 ps)).1] (by
     have:=A8 (l:=uM [] [] 0 ps) (h:=λc=>[tM 11 id c.1 (yK true c.2.1).1]) (B:=1) (λ_ _=>by simp);simp only[aOe,aOh];omega)
   unfold IJ rD;rw[E,aOc,aOi (show¬(!true)=true by decide),k2,aOc];dsimp only;rw[aJN pN pN k5,aOc];dsimp only;rw[a5q (ps:=w8 ps) pN pN,aOc,aJV pN pN k5,aOc,show rC (KX id (uM [] [] 0 ps,0)) ([((10,(id,([],()))),((yK false (w8 ps)).1,(false,())))],0)=_ from this,J0];rfl
  have:=xB (f:=KZ id (uM [] [] 0 ps,0)) (l:=uM [] [] 0 ps) (λj b=>(j,b)) (λb=>b) (λc=>[tM 11 id c.1 (yK true c.2.1).1]) (M:=900000000) (λi h b D=>by
   obtain⟨q1,q2⟩:=z _ (aOm h);unfold KZ;dsimp only;rw[uX (t:=rV) h,aOd (sG h),aOd (rP h),aJF pN pN,aOc,F1 pN,aOc,aOd (s5 pN)];rfl) (λb=>by
   unfold KZ;dsimp only;rw[aOi (sL _)]) (b++[tM 10 id [] (yK false (w8 ps)).1]) (by
    have:=A8 (l:=uM [] [] 0 ps) (h:=λc=>[tM 11 id c.1 (yK true c.2.1).1]) (B:=1) (λ_ _=>by simp);simp only[aOg,aOe,aOh];omega)
  unfold L1 rD;rw[F,aOc,aOi (show¬(!true)=true by decide),k1,aOc];dsimp only;rw[aJO pN pN k5,aOc];dsimp only;rw[a5p (ps:=w8 ps) pN pN,aOc,F1 pN,aOc,aJU pN pN k5,aOc,show rC (KZ id (uM [] [] 0 ps,0)) ((0:Int),b++[((10,(id,([],()))),((yK false (w8 ps)).1,(false,())))])=_ from this,J0,aOk];rfl
def Aw (n:Int):pJ:=qI .str Qd8 n
noncomputable def J1 (id s:pJ):List tT:=(IJ id s).getD []
def V5 (id s:pJ) (z:s.length<=6000):a5W id (J1 id s)/\IJ id s=some (J1 id s)/\(∀b:List tT,b.length<=500000000->L1 (b,()) id s=some (b++J1 id s))/\
  (J1 id s=[tM 10 id [] ([61]++s)]\/∃v ps,sI ps<=9/\xV false ps=true/\J1 id s=[tM 10 id [] v]++(uM [] [] 0 ps).map λc=>tM 11 id c.1 (yK true c.2.1).1):=by
 obtain⟨A,F,j,E,D⟩:=aJZ id s z;have e:J1 id s=A:=by unfold J1;rw[j];rfl
 rw[e];exact⟨F,j,E,D⟩
def F2 (x:x9) (before:pJ):List tT:=[tM 4 x.1 [] before,tM 5 x.1 [] x.2.1,tM 6 x.1 [] (FW x.2.2.2.1),tM 7 x.1 [] (DM x.2.2.2.2.1),tM 8 x.1 [] (Aw x.2.2.2.2.2.1)]
noncomputable def DN (x:x9) (before:pJ):List tT:=(F2 x before++x.2.2.2.2.2.2.1.map λf=>tM 9 x.1 f.1 f.2.1)++J1 x.1 x.2.2.1
def jo {l:List AW}{i:Nat}(h:i<l.length):qI sP l (i:Int)=l[i]:=uX (t:= .pair .str (.pair .str .unit)) h
def aJ0 {x:x9}(D:IN x) (E:0<=x.2.2.2.2.2.1/\x.2.2.2.2.2.1<=4) (b:List tT) (before:pJ) (hb:b.length<=400000000):UB (b,()) x before=some (b++DN x before):=by
 obtain⟨t1,t2,t3,t4⟩:=V5 x.1 x.2.2.1 D.tgt;obtain⟨j1,j2⟩:=a5V D.flg;have F:=D.flg.1;have G:=D.fld.1;have z:=xB (f:=PX x) (l:=x.2.2.2.2.2.2.1) (λj b=>(j,b)) (λb=>b) (λf=>[tM 9 x.1 f.1 f.2.1]) (M:=450000000) (λi h b I=>by
  unfold PX;dsimp only;rw[jo h,aOd (sG h),aOd (rP h),F1 pN,aOc,aOd (s5 pN)];rfl) (λb=>by
  unfold PX;dsimp only;rw[aOi (sL _)]) (b++F2 x before) (by
   have:=A8 (l:=x.2.2.2.2.2.2.1) (h:=λf=>[tM 9 x.1 f.1 f.2.1]) (B:=1) (λ_ _=>by simp);unfold F2;simp only[aOg,aOe,aOh];omega)
 have e1:b++[tM 4 x.1 [] before]++[tM 5 x.1 [] x.2.1]++[tM 6 x.1 [] (FW x.2.2.2.1)]++[tM 7 x.1 [] (DM x.2.2.2.2.1)]++[tM 8 x.1 [] (Aw x.2.2.2.2.2.1)]=b++F2 x before:=by
  simp only[aOk];rfl
 unfold tM at e1;unfold UB rD;dsimp only;rw[F1 pN,aOc,F1 aQS,aOc,a5T D.com,aOc,F1 aQS,aOc,a5O,aOd ⟨pN,pN⟩,F1 aQS,aOc,aOd ⟨E.1,by show x.2.2.2.2.2.1<5;omega⟩,F1 aQS,aOc];rw[show qI .str Qd8 x.2.2.2.2.2.1=Aw x.2.2.2.2.2.1 from rfl,e1,z,aOc,t3 _ (by
  have:=A8 (l:=x.2.2.2.2.2.2.1) (h:=λf=>[tM 9 x.1 f.1 f.2.1]) (B:=1) (λ_ _=>by simp);unfold F2;simp only[aOg,aOe,aOh];omega),aOc,J0]
 unfold DN;simp only[aOk]
def aJ1 {x:x9}(D:IN x) (E:0<=x.2.2.2.2.2.1/\x.2.2.2.2.2.1<=4) (before:pJ):U9 x before=some (DN x before):=by
 obtain⟨t1,t2,t3,t4⟩:=V5 x.1 x.2.2.1 D.tgt;obtain⟨j1,j2⟩:=a5V D.flg;have I:=D.fld.1;have G:=t1.len;have z:=xB (f:=KY x) (l:=x.2.2.2.2.2.2.1) (λj b=>(b,j)) (λb=>b) (λf=>[tM 9 x.1 f.1 f.2.1]) (M:=450000000) (λi h b F=>by
  unfold KY;dsimp only;rw[jo h,aOd (sG h),aOd (rP h),aOd (rP h),aOd (by simp only[aOe,aOh] at F|-;omega),aOd (s5 pN)];rfl) (λb=>by
  unfold KY;dsimp only;rw[aOi (sL _)]) (F2 x before) (by
   have:=A8 (l:=x.2.2.2.2.2.2.1) (h:=λf=>[tM 9 x.1 f.1 f.2.1]) (B:=1) (λ_ _=>by simp);unfold F2;simp only[aOe,aOh];omega)
 rw[J0] at z;unfold U9 WU rD;rw[a5U D.com,aOc,j1,aOc,aOd ⟨E.1,by show x.2.2.2.2.2.1<5;omega⟩,aOc];rw[show rC (KY x) (([(((4:Int),(x.1,(([]:pJ),()))),(before,(false,()))),(((5:Int),(x.1,(([]:pJ),()))),(x.2.1,(false,()))),(((6:Int),(x.1,(([]:pJ),()))),(FW x.2.2.2.1,(false,()))),(((7:Int),(x.1,(([]:pJ),()))),(DM x.2.2.2.2.1,(false,()))),(((8:Int),(x.1,(([]:pJ),()))),((qI .str Qd8 x.2.2.2.2.2.1),(false,())))]:List tT),(0:Int))=_ from z,aOc,t2,aOc,aOd (by
  simp only[aOg,aPa];unfold F2;simp only[aOe,aOh];omega)]
 rfl
def Ax {x:x9}(j:IN x) (before:pJ):(DN x before).length<=50007000:=by
 have D:=(V5 x.1 x.2.2.1 j.tgt).1.len;have z:=j.fld.1;unfold DN F2;simp only[aOg,aPa,aOe,aOh];omega
noncomputable def DO (before:pJ):List x9->List tT
 |[]=>[]
 |x::l=>DN x before++DO x.1 l
def BN (c:C4):List tT:=[tM 1 [] [] c.1,tM 2 [] [] (FW c.2.1)]
noncomputable def FX (c:C4):List tT:=(BN c++c.2.2.1.map λf=>tM 3 [] f.1 f.2.1)++DO [] c.2.2.2.1
structure LP (c:C4):Prop extends ym c where
 n8:c.2.2.2.1.length<=8
def Ay {c:C4}(hv:yS c=true) {i:Nat}(hi:i<c.2.2.2.1.length):(∀y∈c.2.2.2.1.take i,y.1≠(c.2.2.2.1[i]).1)/\L9 c.2.2.2.1[i]=true:=by
 unfold yS at hv;simp only[aOo,aO1] at hv;have h:=hv.2.2;rw[aP6] at h;have:=h i (by simpa using hi);have e:c.2.2.2.1.getD i eD=c.2.2.2.1[i]:=by rw[aOF,aOn hi];rfl
 unfold LB at this;rw[e] at this;simp only[aPE,not_or,aP0,aP6,aOt,Bool.not_eq_false'] at this;exact this
def a5X {c:C4}(hv:yS c=true) {x:x9}(j:x∈c.2.2.2.1):0<=x.2.2.2.2.2.1/\x.2.2.2.2.2.1<=4:=by
 obtain⟨i,hi,rfl⟩:=aPD j;have h:=(Ay hv hi).2;unfold L9 at h;simp only[aOo,aOt] at h;exact h.1.2
def a5Y {c:C4}(h:ym c):XT c where
 tag:=by have:=h.tag;unfold fit;omega
 com:=yn h.com
 fld:=a3J h.fld
 len:=by have:=h.len;omega
 ent x j:=⟨UL (h.ent x j).id,UL (h.ent x j).src,UL (h.ent x j).tgt,yn (h.ent x j).com,yn (h.ent x j).flg,a3J (h.ent x j).fld⟩
def a5Z {B:Nat}: ∀{l:List x9}{before:pJ},(∀x∈l,∀before,(DN x before).length<=B)->(DO before l).length<=l.length*B
 |[],_,_=>by simp [DO]
 |x::l,before,h=>by
  have D:=h x aOz before;have z:=a5Z (B:=B) (l:=l) (before:=x.1) λy j=>h y (aOu _ j);unfold DO;rw[aOg,aOe,aPd];omega
def Az {l:List x9}{i:Nat}(h:i<l.length):qI tJ l (i:Int)=l[i]:=uX (t:=tJ) h
def a50 {c:C4}(D:LP c) (hv:yS c=true): ∀(m j:Nat) (before:pJ) (b:List tT),j+m=c.2.2.2.1.length->b.length+m*50007000<=400100000->
  rC (GO c) (before,(j:Int),b)=some (b++DO before (c.2.2.2.1.drop j))
 |0,j,before,b,F,hb=>by
  have:j=c.2.2.2.1.length:=by omega
  subst this;rw[aOQ];have:GO c (before,(c.2.2.2.1.length:Int),b)=some (.inr b):=by
   unfold GO;dsimp only;rw[aOi (sL _)]
  rw[xY this];unfold DO;rw[List.append_nil]
 |m+1,j,before,b,F,hb=>by
  have z:j<c.2.2.2.1.length:=by omega
  have h8:=D.n8;have E:=D.ent _ (aOm z);have G:=Ax E before;have hst:GO c (before,(j:Int),b)=some (.inl ((c.2.2.2.1[j]).1,((j:Int)+1),b++DN c.2.2.2.1[j] before)):=by
   unfold GO;dsimp only;rw[Az z,aOd (sG z),aOd (rP z),aJ0 E (a5X hv (aOm z)) b before pN,aOc,aOd (s5 pN)]
  rw[AJ hst,show ((j:Int)+1)=((j+1:Nat):Int) by omega,a50 D hv m (j+1) _ _ pN aQK,aOx z,aOk];rfl
def a52 {c:C4}(D:LP c) (hv:yS c=true): ∀(m j:Nat) (before:pJ) (b:List tT),j+m=c.2.2.2.1.length->b.length+m*50007000<=400100000->
  rC (GN c) (b,before,(j:Int))=some (b++DO before (c.2.2.2.1.drop j))
 |0,j,before,b,F,hb=>by
  have:j=c.2.2.2.1.length:=by omega
  subst this;rw[aOQ];have:GN c (b,before,(c.2.2.2.1.length:Int))=some (.inr b):=by
   unfold GN;dsimp only;rw[aOi (sL _)]
  rw[xY this];unfold DO;rw[List.append_nil]
 |m+1,j,before,b,F,hb=>by
  have z:j<c.2.2.2.1.length:=by omega
  have h8:=D.n8;have E:=D.ent _ (aOm z);have G:=Ax E before;have hst:GN c (b,before,(j:Int))=some (.inl (b++DN c.2.2.2.1[j] before,(c.2.2.2.1[j]).1,((j:Int)+1))):=by
   unfold GN;dsimp only;rw[Az z,aOd (sG z),aOd (rP z),aJ1 E (a5X hv (aOm z)) before,aOc,aOd pN,aOd (rP z),aOd (s5 pN)]
  rw[AJ hst,show ((j:Int)+1)=((j+1:Nat):Int) by omega,a52 D hv m (j+1) _ _ pN aQK,aOx z,aOk];rfl
noncomputable def CE (c:C4):List tT×Int:=if yS c=true then(FX c,0) else([],1)
def a54 {c:C4}(D:LP c):PY c=some (CE c):=by
 unfold PY CE;rw[aHL (a5Y D.1),aOc];cases hv:yS c with
 |false=>rfl
 |true=>
  have F:=D.fld.1;have h8:=D.n8;have z:=xB (f:=L5 c) (l:=c.2.2.1) (λj b=>(j,b)) (λb=>b) (λf=>[tM 3 [] f.1 f.2.1]) (M:=10000) (λi h b G=>by
   unfold L5;dsimp only;rw[jo h,aOd (sG h),aOd (rP h),F1 pN,aOc,aOd (s5 pN)];rfl) (λb=>by
   unfold L5;dsimp only;rw[aOi (sL _)]) (BN c) (by
    have:=A8 (l:=c.2.2.1) (h:=λf=>[tM 3 [] f.1 f.2.1]) (B:=1) (λ_ _=>by simp);unfold BN;simp only[aOe,aOh];omega)
  have E:=a50 D hv c.2.2.2.1.length 0 [] (BN c++c.2.2.1.map λf=>tM 3 [] f.1 f.2.1) pN (by
   rw[aOg,aPa];unfold BN;simp only[aOe,aOh];have:=aPk 50007000 h8;omega)
  rw[aOP] at E;rw[J0] at z;rw[aOi (show¬(!true)=true by decide),aOd rfl];unfold rD;rw[F1 pP,aOc,a5T D.com,aOc,F1 pP,aOc];rw[show rC (L5 c) ((0:Int),((([]:List tT)++([(((1:Int),(([]:pJ),(([]:pJ),()))),(c.1,(false,())))]:List tT))++([(((2:Int),(([]:pJ),(([]:pJ),()))),(FW c.2.1,(false,())))]:List tT)))=_ from z,aOc];rw[show rC (GO c) (([]:pJ),(0:Int),BN c++c.2.2.1.map λf=>tM 3 [] f.1 f.2.1)=_ from E,aOc];rfl
def a55 {c:C4}(D:LP c):PW c=some (CE c):=by
 unfold PW CE;rw[aHO (a5Y D.1),aOc];cases hv:yS c with
 |false=>rfl
 |true=>
  have G:=D.fld.1;have h8:=D.n8;have z:=xB (f:=L2 c) (l:=c.2.2.1) (λj b=>(b,j)) (λb=>b) (λf=>[tM 3 [] f.1 f.2.1]) (M:=10000) (λi h b F=>by
   unfold L2;dsimp only;rw[jo h,aOd (sG h),aOd (rP h),aOd (rP h),aOd (by simp only[aOe,aOh] at F|-;omega),aOd (s5 pN)];rfl) (λb=>by
   unfold L2;dsimp only;rw[aOi (sL _)]) (BN c) (by
    have:=A8 (l:=c.2.2.1) (h:=λf=>[tM 3 [] f.1 f.2.1]) (B:=1) (λ_ _=>by simp);unfold BN;simp only[aOe,aOh];omega)
  have E:=a52 D hv c.2.2.2.1.length 0 [] (BN c++c.2.2.1.map λf=>tM 3 [] f.1 f.2.1) pN (by
   rw[aOg,aPa];unfold BN;simp only[aOe,aOh];have:=aPk 50007000 h8;omega)
  rw[aOP] at E;rw[J0] at z;rw[aOi (show¬(!true)=true by decide),aOd rfl];unfold rD;rw[a5U D.com,aOc];rw[show rC (L2 c) (([(((1:Int),(([]:pJ),(([]:pJ),()))),(c.1,(false,()))),(((2:Int),(([]:pJ),(([]:pJ),()))),(FW c.2.1,(false,())))]:List tT),(0:Int))=_ from z,aOc];rw[show rC (GN c) ((BN c++c.2.2.1.map λf=>tM 3 [] f.1 f.2.1),([]:pJ),(0:Int))=_ from E,aOc];rfl
def aJ2 {c:C4}(j:LP c):(FX c).length<=400070000:=by
 have F:=j.fld.1;have E:=a5Z (B:=50007000) (l:=c.2.2.2.1) (before:=[]) λx z b=>Ax (j.ent x z) b;have D:=aPk 50007000 j.n8;unfold FX BN;simp only[aOg,aPa,aOe,aOh];omega
def a56 {c:C4}(j:LP c):(CE c).1.length<=400070000:=by
 unfold CE;split
 .exact aJ2 j
 simp
def a57 {c:C4}(E:UK c) (D:c.2.2.2.1.length<=uK): ∃b,KF c=some b/\(b=true->LP c):=by
 obtain⟨b,hb,hf⟩:=aHQ E;unfold uK at D;have h:=yQ (f:=OH c) (l:=c.2.2.2.1) (λx=>decide ((300:Int)<(x.2.2.1.length:Int))) (λ_=>false) (λi hi=>by
  unfold OH;have j:qH ((i:Int)+1):=by unfold qH;omega
  rw[aOd (sG hi),aOd (rP hi),Az hi];simp only[aOd j]) (by
  unfold OH;rw[aOi (sL _)])
 unfold KF;rw[h,hb,BG];split
 .exact⟨false,rfl,λh=>by cases h⟩
 refine⟨b&&decide ((c.2.2.2.1.length:Int)<=8),rfl,λz=>?_⟩;simp only[aOo,aOt] at z;exact⟨hf z.1,pN⟩
def aJ3 {l:List tT}(h:l.length<=1000000000):N9 l l=some true:=by
 have j:=yQ (f:=N8 l l) (l:=l) (λ_=>false) (λ_=>false) (λi hi=>by
  unfold N8;rw[aOd (sG hi),aOd (rP hi),aOd (rP hi),aOd (s5 pN)];simp) (by
  unfold N8;rw[aOi (sL _)])
 unfold N9;rw[aOi pP,j,yf];simp
def aJ4:UE=some true:=by kernel_rfl
def YI (s:pJ):Prop:= ∀c∈s,c≠47
def a58: ∀(k n:Nat),n<10^k->YI (Lib.decDigits n)
 |k,n,h=>by
  rw[Lib.decDigits];split
  .rename_i z;intro c j;rw[aOs] at j;subst j;rcases(show n=0\/n=1\/n=2\/n=3\/n=4\/n=5\/n=6\/n=7\/n=8\/n=9 by omega) with h|h|h|h|h|h|h|h|h|h<;>subst h<;>decide
  cases k with
  |zero=>simp at h;omega
  |succ k=>
   intro c j;rcases aOR.1 j with j|j
   .exact a58 k (n/10) (by rw[Nat.pow_succ] at h;omega) c j
   rw[aOs] at j;subst j;have z:n%10<10:=Nat.mod_lt _ pN;generalize n%10=q at z;rcases(show q=0\/q=1\/q=2\/q=3\/q=4\/q=5\/q=6\/q=7\/q=8\/q=9 by omega) with h|h|h|h|h|h|h|h|h|h<;>subst h<;>decide
def YJ (n:Nat):YI (vH n):=by
 rw[YF];exact a58 (n+1) n (by
  have:n<2^n:=Nat.lt_two_pow_self;have j:2^n<=10^n:=Nat.pow_le_pow_left pN n;rw[Nat.pow_succ];omega)
def aJ5 {a b r1 r2:pJ}(ha:YI a) (hb:YI b) (h:a++47::r1=b++47::r2):a=b/\r1=r2:=by
 induction a generalizing b with
 |nil=>
  cases b with
  |nil=>simp at h;exact⟨rfl,h⟩
  |cons y b=>
   simp at h;exact absurd h.1.symm (hb y aOz)
 |cons x a ih=>
  cases b with
  |nil=>
   simp at h;exact absurd h.1 (ha x aOz)
  |cons y b=>
   simp at h;obtain⟨e1,e2⟩:=ih (λc j=>ha c (aOu _ j)) (λc j=>hb c (aOu _ j)) h.2;exact⟨by rw[h.1,e1],e2⟩
def Ba {a b r:pJ}(hb:YI b) (h:a++47::r=b):False:=by
 have:(47:UInt8)∈b:=by rw[<-h];simp
 exact hb 47 this rfl
def a59 (s:pJ):Nat:=s.foldl (λa c=>10*a+(c.toNat-48)) 0
def Bb: ∀(k n:Nat),n<10^k->a59 (Lib.decDigits n)=n
 |k,n,h=>by
  rw[Lib.decDigits];split
  .rename_i j;rcases(show n=0\/n=1\/n=2\/n=3\/n=4\/n=5\/n=6\/n=7\/n=8\/n=9 by omega) with h|h|h|h|h|h|h|h|h|h<;>subst h<;>rfl
  cases k with
  |zero=>simp at h;omega
  |succ k=>
   have ih:=Bb k (n/10) (by rw[Nat.pow_succ] at h;omega);unfold a59 at ih|-;rw[List.foldl_append,ih];have j:n%10<10:=Nat.mod_lt _ pN;have D:n=10*(n/10)+n%10:=by omega
   generalize n%10=q at j D|-;generalize n/10=z at D|-;subst D;rcases(show q=0\/q=1\/q=2\/q=3\/q=4\/q=5\/q=6\/q=7\/q=8\/q=9 by omega) with h|h|h|h|h|h|h|h|h|h<;>subst h<;>rfl
def a6a {a b:Nat}(h:vH a=vH b):a=b:=by
 have hp: ∀n:Nat,n<10^ (n+1):=λn=>by
  have:n<2^n:=Nat.lt_two_pow_self;have j:2^n<=10^n:=Nat.pow_le_pow_left pN n;rw[Nat.pow_succ];omega
 rw[YF,YF] at h;rw[<-Bb (a+1) a (hp a),<-Bb (b+1) b (hp b),h]
def DP (l:List rO):pK:=l.map (·.1)
def jp (a b:List rO):DP (a++b)=DP a++DP b:=List.map_append
mutual
def Bc: ∀(p:qG) (path:pJ),∀x∈DP (F0 path p),∃r,x=path++r
 | .mk k t n st cs ps,path,x,j=>by
  rw[QN] at j;split at j
  .rcases YK ps path [] 0 x j with⟨m,_,h⟩ |⟨m,r,_,h⟩
   .exact⟨_,h⟩
   exact⟨vH m++47::r,by rw[h,aOk]⟩
  obtain⟨key,_,r,h⟩:=zq17 cs path x j;exact⟨key++47::r,by rw[h,aOk]⟩
termination_by p=>SizeOf.sizeOf p
def YK: ∀(l:List qG) (path:pJ) (run:List qG) (n:Nat),∀x∈DP (uM path run n l),(∃m,n<=m/\x=path++vH m)\/∃m r,n+1<=m/\x=path++vH m++47::r
 |[],path,run,n,x,j=>by
  rw[YG] at j;simp only[DP,aO7,List.map_nil,aOs] at j;exact .inl ⟨n,aOA _,j⟩
 |p::l,path,run,n,x,j=>by
  rw[YH] at j;split at j
  .exact YK l path _ n x j
  rw[jp,jp] at j;rcases aOR.1 j with j|j
  .simp only[DP,aO7,List.map_nil,aOs] at j;exact .inl ⟨n,aOA _,j⟩
  rcases aOR.1 j with j|j
  .obtain⟨r,h⟩:=Bc p _ x j;exact .inr ⟨n+1,r,aOA _,by rw[h,aOk _ [47]];rfl⟩
  rcases YK l path [] (n+1) x j with⟨m,z,h⟩ |⟨m,r,z,h⟩
  .exact .inl ⟨m,pN,h⟩
  exact .inr ⟨m,r,pN,h⟩
termination_by l=>SizeOf.sizeOf l
def zq17: ∀(l:List (pJ×List qG×Unit)) (path:pJ),∀x∈DP (FV path l),∃key,key∈l.map (·.1)/\∃r,x=path++key++47::r
 |[],path,x,j=>by rw[As] at j;cases j
 |(k,ps,u)::l,path,x,j=>by
  rw[a5H,jp] at j;rcases aOR.1 j with j|j
  .unfold QM at j;dsimp only at j;refine⟨k,aOz,?_⟩;rcases YK ps _ [] 0 x j with⟨m,_,h⟩ |⟨m,r,_,h⟩
   .exact⟨vH m,by rw[h,aOk _ [47]];rfl⟩
   exact⟨vH m++47::r,by rw[h];simp only[aOk];rfl⟩
  obtain⟨key,z,r,h⟩:=zq17 l path x j;exact⟨key,aOu _ z,r,h⟩
termination_by l=>SizeOf.sizeOf l
end
def a6b {α:Type}{a b:List α}(ha:a.Nodup) (hb:b.Nodup) (h: ∀x∈a,x∉b):(a++b).Nodup:=List.nodup_append.2 ⟨ha,hb,λx z y j e=>h x z (e▸j)⟩
def zq18 {s:pJ}(h:DE s=true):YI s:=by
 intro c j e;subst e;have:=aPh.1 h 47 j;exact absurd this pO
def zq19 (p:UInt8->Bool) {c:UInt8}: ∀{u:pJ},c∈u->c∈u.take (s0 p u)\/p c=false\/c∈u.drop (s0 p u+1)
 |x::r,h=>by
  unfold s0;by_cases hp:p x=true
  .rw[aOd hp,List.take_succ_cons,aPP];rcases aOv.1 h with rfl|h
   .exact .inl aOz
   exact(zq19 p h).imp (aOu _) id
  rw[aOi hp];rcases aOv.1 h with rfl|h
  .exact .inr (.inl (by simpa using hp))
  exact .inr (.inr aQe)
def zq20 {neg:Bool}{u:pJ}(h:US neg u=true):YI u:=by
 unfold US yw at h;simp only[aOo] at h;have D:=zq18 h.1.1.1.1.1.2;have z:=zq18 h.1.2;intro c j e;subst e;rcases zq19 wM j with j|j|j
 .exact D 47 j rfl
 .exact absurd j pO
 exact z 47 j rfl
def zq21 {t:pJ}(h:QA t=true):YI t:=by
 unfold QA at h;split at h
 .rename_i j;cases t with
  |nil=>cases j
  |cons b t=>
   simp at j;subst j;intro c z;rcases aOv.1 z with rfl|z
   .decide
   exact zq20 h c z
 exact zq20 h
def zq22 {s:pJ}(h:gx s=true):YI s:=by
 unfold gx at h;simp only[aPE,aOt] at h;rcases h with((((h|h) |h) |h) |h) |h<;>(subst h;unfold YI;decide)
def zq23 {s:pJ}(h:uT s=true):YI s:=by
 cases s with
 |nil=>cases h
 |cons b t=>
  rw[XV] at h;simp only[aOo] at h;intro c j e;subst e;have:=aPh.1 h.2 47 j;exact absurd this pO
def zq24 {k:Int}{s:pJ}(h:tN k s=true):YI s:=by
 unfold tN at h;split at h
 .exact zq23 h
 simp only[aPE,aOo,aOt] at h;rcases h with h|⟨z,D⟩
 .exact zq22 h
 cases s with
 |nil=>cases z
 |cons b t=>
  simp at z;subst z;intro c j;rcases aOv.1 j with rfl|j
  .decide
  exact zq21 D c j
mutual
def aJ6: ∀(p:qG) (d:Nat) (c:Bool) (path:pJ),BM d c p=true->xC p=false->(DP (F0 path p)).Nodup
 | .mk k t n st cs ps,d,c,path,hf,hp=>by
  rw[QN];obtain⟨_,_,E⟩:=jf hf hp;rcases E with⟨D,_,j⟩ |⟨hk,_,z⟩
  .rw[aOd D];exact jq ps _ _ _ path [] 0 j
  rw[aOi pN];exact(zq25 cs _ _ _ _ path z).1
termination_by p=>SizeOf.sizeOf p
def jq: ∀(l:List qG) (d:Nat) (c b:Bool) (path:pJ) (run:List qG) (n:Nat),tS d c b l=true->(DP (uM path run n l)).Nodup
 |[],d,c,b,path,run,n,_=>by rw[YG];simp [DP]
 |p::l,d,c,b,path,run,n,hf=>by
  rw[YA] at hf;simp only[aOo] at hf;rw[YH];split
  .exact jq l d c _ path _ n hf.2.2
  rename_i hp;have D:xC p=false:=by simpa using hp
  have F:=aJ6 p d c (path++vH (n+1)++[47]) hf.2.1 D;have E:=jq l d c _ path [] (n+1) hf.2.2;rw[jp,jp];refine a6b (by simp [DP]) (a6b F E λx z j=>?_) λx z j=>?_
  .obtain⟨r,e⟩:=Bc p _ x z;rw[aOk _ [47],aOk] at e;rcases YK l path [] (n+1) x j with⟨m,_,h⟩ |⟨m,r2,hm,h⟩
   .rw[e] at h;exact Ba (YJ m) (List.append_cancel_left h)
   rw[e,aOk] at h;have:=a6a (aJ5 (YJ _) (YJ _) (List.append_cancel_left h)).1;omega
  simp only[DP,aO7,List.map_nil,aOs] at z;subst z;rcases aOR.1 j with j|j
  .obtain⟨r,e⟩:=Bc p _ _ j;rw[aOk _ [47],aOk] at e;exact Ba (YJ n) (List.append_cancel_left e).symm
  rcases YK l path [] (n+1) _ j with⟨m,hm,h⟩ |⟨m,r2,hm,h⟩
  .have:=a6a (List.append_cancel_left h);omega
  rw[aOk] at h;exact Ba (YJ n) (List.append_cancel_left h).symm
termination_by l=>SizeOf.sizeOf l
def zq25: ∀(l:List (pJ×List qG×Unit)) (k:Int) (d:Nat) (c:Bool) (keys:pK) (path:pJ),yJ k d c keys l=true->(DP (FV path l)).Nodup/\(∀key∈l.map (·.1),YI key/\key∉keys)
 |[],_,_,_,_,path,_=>by rw[As];simp [DP]
 |(key,ps,u)::l,k,d,c,keys,path,hf=>by
  rw[Ac] at hf;simp only[aOo,aO1,aO6] at hf;obtain⟨⟨hk,I⟩,E,F⟩:=hf;obtain⟨M,z⟩:=zq25 l k d c _ path F;have K:=jq ps d c false (path++key++[47]) [] 0 E;rw[a5H,jp];refine⟨a6b K M λx G D=>?_,λkey2 j=>?_⟩
  .obtain⟨key2,hm,r,e⟩:=zq17 l path x D;have e1: ∃r,x=path++(key++47::r):=by
    rcases YK ps _ [] 0 x G with⟨m,_,h⟩ |⟨m,r,_,h⟩
    .exact⟨vH m,by rw[h];simp only[aOk];rfl⟩
    exact⟨vH m++47::r,by rw[h];simp only[aOk];rfl⟩
   obtain⟨r1,e1⟩:=e1;rw[e1,aOk] at e;have:=(aJ5 (zq24 hk) (z key2 hm).1 (List.append_cancel_left e)).1;exact(z key2 hm).2 (by rw[<-this];simp)
  rcases aOv.1 j with rfl|j
  .exact⟨zq24 hk,I⟩
  exact⟨(z key2 j).1,λh=>(z key2 j).2 (List.mem_append_left _ h)⟩
termination_by l=>SizeOf.sizeOf l
end
def a6c: ∀(x y:pJ),Op.bytesLess x y=decide (x<y)
 |[],[]=>by simp [Op.bytesLess]
 |_::_,[]=>by simp [Op.bytesLess]
 |[],_::_=>by simp [Op.bytesLess]
 |a::x,b::y=>by
  rw[Op.bytesLess,a6c x y];simp only[List.cons_lt_cons_iff];by_cases D:a<b<;>by_cases z:a=b<;>by_cases j:x<y<;>simp [D,z,j]
def aJ7 {α:Type}{r:α->α->Prop}(tr: ∀a b c,r a b->r b c->r a c) {l:List α}(h: ∀(i:Nat) (hi:i+1<l.length),r l[i] l[i+1]):l.Pairwise r:=by
 rw[aPM];intro i j hi z D;obtain⟨k,rfl⟩: ∃k,j=i+1+k:=⟨j-i-1,pN⟩
 induction k with
 |zero=>exact h i z
 |succ k ih=>exact tr _ _ _ (ih pN pN) (h (i+1+k) z)
def a6d {α:Type}{l:List α}{i:Nat}{d:α}(h:i<l.length):l.getD i d=l[i]:=by
 rw[aOF,aOn h];rfl
def a6e {l:List AW}(h:A7 l=true):l.Pairwise (λa b=>a.1≠b.1):=by
 unfold A7 at h;simp only[aOo,aO1,aP6,aOt,List.mem_range,aP0] at h;obtain⟨j,_⟩:=h;unfold gd at j;simp only[aPW,Bool.and_eq_false_iff,Bool.not_eq_false',aO6] at j;refine(aJ7 (r:=λa b:AW=>a.1<b.1) (λa b c=>List.lt_trans) λi hi=>?_).imp λh e=>absurd (e▸h) (List.lt_irrefl _);have:=(j (i+1) hi).2;rw[a6d hi,Nat.add_sub_cancel,a6d (show i<l.length by omega),a6c] at this;exact aO3 (this.resolve_left pN)
abbrev CF:Type:=Int×pJ×pJ×Unit
def vI (l:List tT):List CF:=l.map (·.1)
def aJ8 (a b:List tT):vI (a++b)=vI a++vI b:=List.map_append
def jr {l:List tT}{k:CF}(h:k∈vI l): ∃a∈l,a.1=k:=List.mem_map.1 h
def Be {α:Type}{l:List α}{g:α->tT}(h:l.Pairwise λa b=>(g a).1≠(g b).1):(vI (l.map g)).Nodup:=by
 unfold vI;rw[List.map_map];exact List.pairwise_map.2 h
def V6 {a b:List tT}(ha:(vI a).Nodup) (hb:(vI b).Nodup) (h: ∀x∈a,∀y∈b,x.1≠y.1):(vI (a++b)).Nodup:=by
 rw[aJ8,List.nodup_append];refine⟨ha,hb,λk hk q D e=>?_⟩;obtain⟨x,z,rfl⟩:=jr hk;obtain⟨y,j,rfl⟩:=jr D;exact h x z y j e
def aJ9 (id s:pJ) (D:s.length<=6000):(vI (J1 id s)).Nodup:=by
 obtain⟨_,_,_,h|⟨v,ps,_,hv,h⟩⟩:=V5 id s D
 .rw[h];simp [vI]
 rw[h];refine V6 (by simp [vI]) (Be ?_) λx j y z e=>?_
 .have:=jq ps 1 false false [] [] 0 (ji hv);unfold DP at this;exact(List.pairwise_map.1 this).imp λh e=>h (aOI (λk:CF=>k.2.2.1) e)
 rw[aOs] at j;subst j;obtain⟨c,_,rfl⟩:=List.mem_map.1 z;exact absurd (aOI (λk:CF=>k.1) e) (by simp [tM])
def js {x:x9}{before:pJ}: ∀a∈F2 x before,4<=a.1.1/\a.1.1<=8/\a.1.2.1=x.1:=by
 intro a ha;unfold F2 at ha;simp only[aOv,aPr,or_false] at ha;rcases ha with rfl|rfl|rfl|rfl|rfl<;>exact⟨by simp [tM],by simp [tM],rfl⟩
def Bf {x:x9}(j:IN x) {before:pJ}: ∀a∈DN x before,4<=a.1.1/\a.1.2.1=x.1:=by
 intro a ha;unfold DN at ha;rcases aOR.1 ha with ha|ha
 .rcases aOR.1 ha with ha|ha
  .exact⟨(js a ha).1,(js a ha).2.2⟩
  obtain⟨f,_,rfl⟩:=List.mem_map.1 ha;exact⟨by unfold tM;show (4:Int)<=9;decide,rfl⟩
 obtain⟨t1,_⟩:=V5 x.1 x.2.2.1 j.tgt;obtain⟨k1,k2,_⟩:=t1.kind a ha;exact⟨pN,k2⟩
def aKa {x:x9}(z:IN x) (hf:A7 x.2.2.2.2.2.2.1=true) (before:pJ):(vI (DN x before)).Nodup:=by
 unfold DN;refine V6 (V6 ?_ (Be ((a6e hf).imp λh e=>h (aOI (λk:CF=>k.2.2.1) e))) λa ha y j e=>?_) (aJ9 _ _ z.tgt) λa ha y j e=>?_
 .unfold F2 vI tM;simp
 .obtain⟨f,_,rfl⟩:=List.mem_map.1 j;have D:=(js a ha).2.1;rw[e] at D;exact absurd D (by unfold tM;show¬(9:Int)<=8;decide)
 obtain⟨t1,_⟩:=V5 x.1 x.2.2.1 z.tgt;obtain⟨k1,_,_⟩:=t1.kind y j;rw[<-e] at k1;rcases aOR.1 ha with ha|ha
 .have:=(js a ha).2.1;omega
 obtain⟨f,_,rfl⟩:=List.mem_map.1 ha;rcases k1 with k|k<;>exact absurd k (by simp [tM])
def a6f: ∀{l:List x9}{before:pJ},(∀x∈l,IN x/\A7 x.2.2.2.2.2.2.1=true)->l.Pairwise (λa b=>a.1≠b.1)->(vI (DO before l)).Nodup/\∀a∈DO before l,4<=a.1.1/\∃x∈l,a.1.2.1=x.1
 |[],_,_,_=>by unfold DO;exact⟨by simp [vI],λa ha=>by cases ha⟩
 |x::l,before,h,hp=>by
  obtain⟨j,G⟩:=h x (aOz ..);obtain⟨p1,p2⟩:=List.pairwise_cons.1 hp;obtain⟨i1,i2⟩:=a6f (l:=l) (before:=x.1) (λy E=>h y (aOu _ E)) p2;unfold DO;refine⟨V6 (aKa j G before) i1 λa ha y E e=>?_,λa ha=>?_⟩
  .obtain⟨_,z,D,F⟩:=i2 y E;have:=(Bf j a ha).2;rw[e,F] at this;exact p1 z D this.symm
  rcases aOR.1 ha with ha|ha
  .exact⟨(Bf j a ha).1,x,aOz ..,(Bf j a ha).2⟩
  obtain⟨k1,z,D,k2⟩:=i2 a ha;exact⟨k1,z,aOu _ D,k2⟩
def aKb {c:C4}(hv:yS c=true):c.2.2.2.1.Pairwise (λa b=>a.1≠b.1):=by
 rw[aPM];intro i j hi z D;exact(Ay hv z).1 _ (by rw[aPz];exact⟨i,pN,rfl⟩)
def aKc {c:C4}(hv:yS c=true):A7 c.2.2.1=true/\∀x∈c.2.2.2.1,A7 x.2.2.2.2.2.2.1=true:=by
 refine⟨?_,λx j=>?_⟩
 .unfold yS at hv;simp only[aOo] at hv;exact hv.1.2
 obtain⟨i,hi,rfl⟩:=aPD j;have h:=(Ay hv hi).2;unfold L9 at h;simp only[aOo] at h;exact h.2
def a6g {c:C4}(F:LP c) (hv:yS c=true):(vI (FX c)).Nodup:=by
 obtain⟨f1,f2⟩:=aKc hv;obtain⟨e1,e2⟩:=a6f (before:=[]) (λx z=>⟨F.ent x z,f2 x z⟩) (aKb hv);unfold FX;have hk: ∀a∈BN c,a.1.1<=2:=by
  intro a ha;unfold BN at ha;simp only[aOv,aPr,or_false] at ha;rcases ha with rfl|rfl<;>simp [tM]
 refine V6 (V6 ?_ (Be ((a6e f1).imp λh e=>h (aOI (λk:CF=>k.2.2.1) e))) λa ha y j e=>?_) e1 λa ha y j e=>?_
 .unfold BN vI tM;simp
 .obtain⟨f,_,rfl⟩:=List.mem_map.1 j;have E:=hk a ha;rw[e] at E;exact absurd E (by unfold tM;show¬(3:Int)<=2;decide)
 have D:=(e2 y j).1;rw[<-e] at D;rcases aOR.1 ha with ha|ha
 .have:=hk a ha;omega
 obtain⟨f,_,rfl⟩:=List.mem_map.1 ha;exact absurd D (by unfold tM;show¬(4:Int)<=3;decide)
def xJ (l:List tT):List (CF×pJ):=l.map λa=>(a.1,a.2.1)
theorem jt (a x:CF):wG uG a x=decide (a=x):=by
 obtain⟨a1,a2,a3,_⟩:=a;obtain⟨x1,x2,x3,_⟩:=x;show (decide (a1=x1)&&(decide (a2=x2)&&(decide (a3=x3)&&true)))=_;by_cases D:a1=x1<;>by_cases z:a2=x2<;>by_cases j:a3=x3<;>simp [D,z,j]
theorem ju (k:CF): ∀l:List tT,w5 uG .str (xJ l) k=decide (k∈vI l)
 |[]=>by simp [xJ,vI,w5]
 |a::l=>by
  show (if wG uG k a.1=true then true else w5 uG .str (xJ l) k)=_;rw[jt,ju k l];show _=decide (k∈a.1::vI l);by_cases h:k=a.1<;>simp [h]
theorem a6h (k:CF) (v:pJ): ∀l:List tT,k∉vI l->rN uG .str k v (xJ l)=xJ l++[(k,v)]
 |[],_=>rfl
 |a::l,h=>by
  show (if wG uG k a.1=true then(k,v)::xJ l else(a.1,a.2.1)::rN uG .str k v (xJ l))=_;have z: ¬k=a.1:=λe=>h (by rw[e];exact aOz ..);rw[jt,aOi aQg,a6h k v l λj=>h (aOu _ j)];rfl
theorem QP {l:List tT}{i:Nat}(h:i<l.length):qI rQ l (i:Int)=l[i]:=uX (t:=rQ) h
theorem a6i {l:List tT}(D:(vI l).Nodup) (E:l.length<=1000000000): ∀(m j:Nat),j+m=l.length->rC (I1 l) ((j:Int),xJ (l.take j))=some (.inl (xJ l))
 |0,j,F=>by
  obtain rfl:j=l.length:=by omega
  rw[sZ];unfold I1;dsimp only;rw[aOi (sL _),List.take_length];rfl
 |m+1,j,F=>by
  have h:j<l.length:=by omega
  have z:l[j].1∉vI (l.take j):=by
   intro hm;obtain⟨a,ha,G⟩:=jr hm;obtain⟨i,hi,rfl⟩:=aPz.1 ha;unfold vI at D;have:=(aPM.1 D) i j (by rw[aPa];omega) (by rw[aPa];exact h) pN;rw[List.getElem_map,List.getElem_map] at this;exact this G
  have e:xJ (l.take j)++[(l[j].1,l[j].2.1)]=xJ (l.take (j+1)):=by
   unfold xJ;rw[List.take_succ_eq_append_getElem h,List.map_append];rfl
  rw[sZ];have st:I1 l ((j:Int),xJ (l.take j))=some (.inl (((j+1:Nat):Int),xJ (l.take (j+1)))):=by
   unfold I1;dsimp only;rw[aOd (sG h),aOd (rP h),QP h];rw[show w5 uG .str (xJ (l.take j)) l[j].1=false from by rw[ju];exact decide_eq_false z];rw[aOi pO,aOd (s5 pN),a6h _ _ _ z,e]
   try rfl
  rw[st];exact a6i D E m (j+1) pN
theorem a6j {l:List tT}(j:(vI l).Nodup) (z:l.length<=1000000000):C3 l=some (xJ l):=by
 have:=a6i j z l.length 0 pN;unfold C3;rw[show rC (I1 l) ((0:Int),[])=_ from this];rfl
def QQ (l:List tT) (k:CF):pX:=l.findIdx? λy=>decide (y.1=k)
theorem a6k (l:List tT) (k:CF) (j:l.length<=1000000000):NB l k=some (y4 (λi=>(i:Int)) (-1) (QQ l k)):=by
 have h:=yQ (f:=NA l k) (l:=l) (λy=>decide (y.1=k)) (λi=>(i:Int)) (λi h=>by
  unfold NA;rw[aOd (sG h),aOd (rP h),QP h,aOd (s5 pN)];have e:((l[i].1.1=k.1)&&((l[i].1.2.1=k.2.1)&&(l[i].1.2.2.1=k.2.2.1)))=decide (l[i].1=k):=by
   rw[<-Bool.decide_and,<-Bool.decide_and];exact aPG.2 (by simp [Prod.ext_iff])
  rw[e]) (by
  unfold NA;rw[aOi (sL _)])
 unfold NB;rw[h,fv];rfl
theorem a6l {k:CF}: ∀{l:List tT},QQ l k=none->k∉vI l:=λ{l} h hm=>by
 obtain⟨a,ha,rfl⟩:=jr hm;unfold QQ at h;rw[List.findIdx?_eq_none_iff] at h;simpa using h a ha
theorem Bg {k:CF}: ∀{l:List tT}{i:Nat},QQ l k=some i->∃h:i<l.length,k∈vI l/\sC uG .str (xJ l) k=l[i].2.1
 |[],i,h=>by cases h
 |a::l,i,h=>by
  unfold QQ at h;rw[aPu] at h;by_cases e:a.1=k
  .rw[aOd (by simpa using e)] at h;cases h;refine⟨by simp,by rw[<-e];exact aOz ..,?_⟩;show (if wG uG k a.1=true then a.2.1 else _)=_;rw[jt,aOd (by simpa using e.symm)];rfl
  rw[aOi (by simpa using e)] at h;obtain⟨j,z,rfl⟩:=aOq.1 h;obtain⟨F,E,D⟩:=Bg (l:=l) z;refine⟨by simp only[aOe];omega,aOu _ E,?_⟩;show (if wG uG k a.1=true then a.2.1 else sC uG .str (xJ l) k)=_;rw[jt,aOi (by simpa using λq=>e q.symm),D];rfl
def J2 (l:List tT) (a:tT):List tT:=if decide (a.1∈vI l)=true then[] else[(a.1,([],(true,())))]
def J3 (l:List tT) (a:tT):List tT:=if ((!decide (a.1∈vI l))|| !decide (sC uG .str (xJ l) a.1=a.2.1))=true then[a] else[]
theorem Bh (l m:List tT):(m.flatMap (J2 l)).length<=m.length:=by
 have:=A8 (l:=m) (h:=J2 l) (B:=1) (λa _=>by unfold J2;split<;>simp)
 omega
theorem Bi (l m:List tT):(m.flatMap (J3 l)).length<=m.length:=by
 have:=A8 (l:=m) (h:=J3 l) (B:=1) (λa _=>by unfold J3;split<;>simp)
 omega
section
variable {a b:List tT}{x y:Int}(ha:a.length<=400070000) (hb:b.length<=400070000)
include ha hb
theorem aKd:rC (UC (a,x) (xJ b)) (([]:List tT),(0:Int))=some (a.flatMap (J2 b)):=by
 have:=xB (f:=UC (a,x) (xJ b)) (l:=a) (λj o=>(o,j)) (λo=>o) (J2 b) (M:=1000000000) (λi h o z=>by
  unfold UC;dsimp only;rw[aOd (sG h),aOd (rP h),QP h,ju];unfold J2 at z|-;cases D:decide (a[i].1∈vI b) with
  |true=>rw[Bool.not_true,aOi pO,aOd (s5 pN),aOd rfl,List.append_nil]
  |false=>
   rw[D,aOi pO] at z;rw[Bool.not_false,aOd rfl,aOd aQQ,aOd (s5 pN),aOi pO]) (λo=>by
  unfold UC;dsimp only;rw[aOi (sL _)]) [] (by have:=Bh b a;simp only[aOh];omega)
 rwa [List.nil_append] at this
theorem aKe (o:List tT) (D:o.length<=400070000):rC (UD (b,y) (xJ a)) (o,(0:Int))=some (o++b.flatMap (J3 a)):=
 xB (f:=UD (b,y) (xJ a)) (l:=b) (λj o=>(o,j)) (λo=>o) (J3 a) (M:=1000000000) (λi h o z=>by
  unfold UD;dsimp only;rw[aOd (sG h),aOd (rP h),QP h,ju];unfold J3 at z|-;split
  .rename_i hk;rw[aOd hk] at z;rw[aOd aQQ,aOd (s5 pN)]
  .rw[aOd (s5 pN),List.append_nil]) (λo=>by
  unfold UD;dsimp only;rw[aOi (sL _)]) o (by have:=Bi a b;omega)
theorem aKf:rC (L3 (a,x) (b,y)) (([]:List tT),(0:Int))=some (a.flatMap (J2 b)):=by
 have:=xB (f:=L3 (a,x) (b,y)) (l:=a) (λj o=>(o,j)) (λo=>o) (J2 b) (M:=1000000000) (λi h o z=>by
  unfold L3;dsimp only;rw[aOd (sG h),aOd (rP h),QP h,a6k b _ pN,aOc];unfold J2 at z|-;cases hf:QQ b a[i].1 with
  |none=>
   have D:=decide_eq_false (a6l hf);rw[D,aOi pO] at z;rw[D,aOd (by simp [y4]),aOd (rP h),aOd aQQ,aOd (s5 pN),aOi pO]
  |some k=>
   obtain⟨_,hk,_⟩:=Bg hf;rw[show y4 (λi:Nat=>(i:Int)) (-1) (some k)=(k:Int) from rfl];rw[aO4 hk,aOi (λq=>absurd (aO3 q) pN),aOd (s5 pN),aOd rfl,List.append_nil]) (λo=>by
  unfold L3;dsimp only;rw[aOi (sL _)]) [] (by have:=Bh b a;simp only[aOh];omega)
 rwa [List.nil_append] at this
theorem aKg (o:List tT) (G:o.length<=400070000):rC (L4 (a,x) (b,y)) (o,(0:Int))=some (o++b.flatMap (J3 a)):=
 xB (f:=L4 (a,x) (b,y)) (l:=b) (λj o=>(o,j)) (λo=>o) (J3 a) (M:=1000000000) (λi h o z=>by
  unfold L4;dsimp only;rw[aOd (sG h),aOd (rP h),QP h,a6k a _ pN,aOc];unfold J3 at z|-;cases hf:QQ a b[i].1 with
  |none=>
   have hk:=a6l hf;have D:((!decide (b[i].1∈vI a))|| !decide (sC uG .str (xJ a) b[i].1=b[i].2.1))=true:=by simp [hk]
   rw[aOd D] at z;rw[aOd D,aOd (λq=>absurd q (by simp [y4])),aOd (λq=>absurd q (by simp [y4])),aOd (by simp [y4]),aOd (rP h),aOd aQQ,aOd (s5 pN)]
  |some k=>
   obtain⟨F,hk,hv⟩:=Bg hf;have e0: ∀q,@decide ((k:Int)<0) q=false:=λ_=>decide_eq_false pN;rw[show y4 (λi:Nat=>(i:Int)) (-1) (some k)=(k:Int) from rfl];rw[aOd (λ_=>⟨pN,pN⟩),aOd (λ_=>⟨pN,pN⟩)];rw[aO4 hk,hv,Bool.not_true] at z;rw[e0,QP F,aO4 hk,hv,Bool.not_true];cases E:(false|| !decide (a[k].2.1=b[i].2.1)) with
   |true=>
    rw[E,aOd rfl] at z;rw[aOd rfl,aOd (rP h),aOd aQQ,aOd (s5 pN),aOd rfl]
   |false=>rw[aOi pO,aOd (s5 pN),aOi pO,List.append_nil]) (λo=>by
  unfold L4;dsimp only;rw[aOi (sL _)]) o (by have:=Bi a b;omega)
end
theorem aKh {c d:C4}(F:UK c) (D:c.2.2.2.1.length<=uK) (E:UK d) (hm:d.2.2.2.1.length<=uK):Q0 c d=some true:=by
 obtain⟨p,I,G⟩:=a57 F D;obtain⟨q,g1,g2⟩:=a57 E hm;unfold Q0;rw[aJ4,aOc,aOi (show¬(!true)=true by decide),I,aOc,g1,aOd (λ_=>uL _),uE];by_cases hb:((!p)||(!q))=true
 .rw[aOd hb]
 rw[aOi hb];have hp:p=true:=by cases p<;>simp_all
 have z:q=true:=by cases q<;>simp_all
 have tc:=G hp;have td:=g2 z;have lc:=a56 tc;have ld:=a56 td;have key: ∃r:List tT×Int,PZ c d=some r/\UA c d=some r/\r.1.length<=1000000000:=by
  unfold PZ UA;rw[a54 tc,a54 td,a55 tc,a55 td,aOc,aOc,aOc,aOc];by_cases j:((!decide ((CE c).2=(0:Int)))||(!decide ((CE d).2=(0:Int))))=true
  .rw[aOd j,aOd j];exact⟨_,rfl,rfl,by simp⟩
  rw[aOi j,aOi j];have vc:yS c=true:=by
   cases hv:yS c with
   |true=>rfl
   |false=>exact absurd (by unfold CE;rw[hv];simp) j
  have vd:yS d=true:=by
   cases hv:yS d with
   |true=>rfl
   |false=>exact absurd (by unfold CE;rw[hv];simp) j
  have ec:CE c=(FX c,0):=by unfold CE;rw[aOd vc]
  have ed:CE d=(FX d,0):=by unfold CE;rw[aOd vd]
  rw[ec] at lc|-;rw[ed] at ld|-;dsimp only at lc ld|-;have kc:=a6j (a6g tc vc) pN;have kd:=a6j (a6g td vd) pN;have gl:=Bh (FX d) (FX c);have nl:=Bi (FX c) (FX d);unfold rD;rw[kc,aOd (uL _),aOc,kd,aOd (uL _),aOc];rw[aKd lc ld,aOc,aKe lc ld _ pN,aOc,aKf lc ld,aOc,aKg lc ld _ pN,aOc];exact⟨_,rfl,rfl,by rw[aOg];omega⟩
 obtain⟨r,k1,k2,k3⟩:=key;rw[k1,k2,aOc,aOc,aJ3 k3,aOd (λ_=>uL _),uE];simp
end Go.Proofs.YtedimeeleabhnaaGreatDoor
namespace Go.Proofs.YtedimeeleabhnaaGreatDoor
open Go.ChangeShapes Go.WideShapes Go.ChangeAt Go.RowKit
section
variable {H:Type}{enc:TypeId×qA->H}{P:Program}
theorem aKi (hl:laidOutB P=true) {W W':pZ}(hb:Below W.heap.size W W'):
  ∀{ts:List TypeId}{vs:pV}{ds:List (DataW H)}{ps:List MemPlace},(∀t∈ts,P.readableRec t=true/\t<P.types.size)->
  DataW.TrodAll enc P W 0 (λ_=>true) true ts vs ds ps->(∀x∈ps,x.block<W.heap.size)->
  DataW.TrodAll enc P W' 0 (λb=>decide (b<W.heap.size)) true ts vs ds ps:=by
 intro ts
 induction ts with
 |nil=>
  intro vs ds ps _ h _;obtain⟨rfl,rfl,rfl⟩:=trodAll_nil h;exact trodAll_mk0
 |cons t ts ih=>
  intro vs ds ps hr h hlt;obtain⟨v,vs',d,ds',p,q,rfl,rfl,rfl,h0,r0⟩:=trodAll_cons h;exact trodAll_cons_mk (Below.trod hl (hr t pP).1 (hr t pP).2 h0 hb (λx hx=>hlt x (by simp [hx]))) (ih (λt' ht'=>hr t' (by simp [ht'])) r0 (λx hx=>hlt x (by simp [hx])))
theorem aKj {f:Func}{s:ChangeSpec}{W W':pZ}{args:Array qA}{ds gs:List (DataW H)}{before:List MemPlace}{tb:TypeId}
  (hl:laidOutB P=true) (hr: ∀t∈f.params.toList,P.readableRec t=true/\t<P.types.size)
  (hW:DataW.Whole enc P f.params.toList s.vars false W args.toList ds gs before) (hv:s.vars=[])
  (hfn:s.fn H ds={results:=[.lit (.bool true)],args:=ds}) (hrt:f.resultTypes= #[tb]) (htb:P.underlying tb=some .bool)
  (hb:Below W.heap.size W W'):s.post enc P f false true false false W args (.bool true) W':=by
 have hW':=hW;obtain⟨p,q,hA,hV,rfl,hfz,hnd⟩:=hW;rw[hv] at hV;obtain⟨rfl,rfl⟩:=trodVars_none hV;have hlt: ∀x∈p,x.block<W.heap.size:=λx hx=>by simpa using hW'.lt x (by simp [hx])
 refine⟨ds,[],p++[],[],p,[],hW',?_,?_,?_,hb.frame _,λh=>by cases h⟩
 .rw[List.append_nil,hfn,hrt];exact trodAll_mk1 (shut_bool htb true)
 .rw[List.append_nil,hfn];exact aKi hl hb hr hA hlt
 rw[hv,List.append_nil,hfn];rfl
end
section
variable {H:Type}{enc:TypeId×qA->H}
theorem aKk {C:Checked}{f:FuncId}{fn:Func}{s:ChangeSpec}{tb:TypeId}{H0:List (String×DataW Unit)}(own:ownKnob C.prog.godebug=none) {os:Os}(started:os.Started) (F:Stop.Interp)
  (noInit:C.prog.inits.idxOf? f=none) (hfn:C.prog.funcs[f]? =some fn)
  (hl:laidOutB C.prog=true) (hr: ∀t∈fn.params.toList,C.prog.readableRec t=true/\t<C.prog.types.size) (hv:s.vars=[])
  (hrt:fn.resultTypes= #[tb]) (htb:C.prog.underlying tb=some .bool)
  (hspec: ∀(ds:List (DataW H)) (W:pZ) (args:Array qA) ps,DataW.TrodAll enc C.prog W 0 (λ_=>true) true fn.params.toList args.toList ds ps->s.fn H ds={results:=[.lit (.bool true)],args:=ds})
  (witness: ∃(w:pZ) (tape:Tape) (i:Input),w.os=os/\(w.forCall tape i).Shaped C.prog/\i.vars=[]/\Input.okWide C.prog (w.forCall tape i) .any w.heap.size f i/\
   (OpenSpec.ofChange s).preRow enc C.prog fn [] false H0 (w.forCall tape i).memory i.args/\Assume.holds {} C.prog (lone (Frame.enter C.prog f i.args .normal) [] (w.forCall tape i)))
  (contract: ∀(W:pZ) (base:Nat) (args:Array qA) (ds:List (DataW H)) (ps:List MemPlace),
   (∀(j:Nat) t v,fn.params[j]? =some t->args[j]? =some v->Value.okWide C.prog W .any base t v)->
   DataW.TrodAll enc C.prog W 0 (λ_=>true) true fn.params.toList args.toList ds ps->
   (∀x∈ps,x.block<W.heap.size)->(DataW.weightsEach C.prog fn.params.toList ds).all (·<=reachBytes)=true->laidMetH C.prog H0 W->W.ShapedOpen C.prog->
   Calls C.prog f args W λe W'=>e= .returned (.bool true)/\Below W.heap.size W W'):
  ReturnsInHanded {} C os f .any ((OpenSpec.ofChange s).preRow enc C.prog fn [] false H0) (s.post enc C.prog fn false true false false):=by
 refine returnsInHanded_of_row (C:=C) (s:=OpenSpec.ofChange s) (F:=F) own started noInit hfn witness ?_;intro W base args ds gs before hval hW _ _ hsz hL hsh _;have hW':=hW;obtain⟨p,q,hA,hV,rfl,hfz,hnd⟩:=hW;have hV':DataW.TrodVars enc C.prog W (λ_=>true) s.vars gs q:=hV;rw[hv] at hV';obtain⟨rfl,rfl⟩:=trodVars_none hV';have hlt: ∀x∈p,x.block<W.heap.size:=λx hx=>by simpa using hW'.lt x (by simp [hx])
 have hvt:(OpenSpec.ofChange s).bare.plain.varTypes C.prog=[]:=by
  simp [OpenSpec.ofChange,ChangeSpec.plain,hv];rfl
 rw[hvt,List.append_nil,List.append_nil] at hsz;refine(contract W base args ds p hval hA hlt hsz hL hsh).mono λe W' ⟨he,hb⟩=>?_;subst he;exact⟨_,rfl,aKj hl hr hW' hv (hspec ds W args p hA) hrt htb hb⟩
end
end Go.Proofs.YtedimeeleabhnaaGreatDoor
namespace Go.Proofs.YtedimeeleabhnaaGreatDoor
open Go.Shelf Go.Lib
open Vc
theorem aKl:(Rows.laid_unicode_utf8_first:DataW Unit)=Lib.firstData:=by kernel_rfl
theorem aKm:(Rows.laid_unicode_utf8_acceptRanges:DataW Unit)=Lib.acceptData:=by kernel_rfl
theorem aKn:(Rows.laid_internal_strconv_uint64pow10:DataW Unit)=Lib.tabData .u64 Lib.pow10Tab:=by kernel_rfl
def a6m:pU:=[0,1,56,2,57,49,28,3,61,58,42,50,38,29,17,4,62,47,59,36,45,43,51,22,53,39,33,30,24,18,12,5,63,55,48,27,60,41,37,16,46,35,44,21,52,32,23,11,54,26,40,15,34,20,31,10,25,14,19,9,13,8,7,6]
theorem aKo:(Rows.laid_math_bits_deBruijn64tab:DataW Unit)=Lib.tabData .u8 a6m:=by kernel_rfl
theorem aKp {P:Program}{w:pZ}{g:Nat}{t:TypeId}{k:IntKind}{zero:Array qA}(h:w.ShapedOpen P) (hg:g<P.globals.size)
  (h0:((begin P (λ_ _=>0) default).world.heap[g]?).bind Obj.row? =some (zero,t)) (hz:zero.size=1)
  (hb:P.buildable t=true) (hc:P.cellTypes P.depth t=some [t]) (hu:P.underlying t=some (.int k)): ∃m,w.cell? ⟨g,0,none⟩=some (.int k m):=by
 obtain⟨cs,hh,hs,hr⟩:=h.1 g zero t hg h0;obtain⟨ts,hts,_,hall⟩:=hr hb;rw[hc] at hts;cases hts;have h1:0<cs.size:=by omega
 obtain⟨u,hu',hok⟩:=hall 0 cs[0] (by simp [h1]);have:u=t:=by simpa using hu'.symm
 subst this;have hcell:w.cell? ⟨g,0,none⟩=some cs[0]:=by simp [World.cell?,hh,h1]
 rw[hcell];unfold Cell.ok at hok;rw[hu] at hok;cases hv:cs[0]<;>rw[hv] at hok<;>simp at hok
 rename_i k' m;exact⟨m,by rw[hok.1]⟩
theorem aKq {W:pZ}(hsh:W.ShapedOpen Tryz.prog): ∃m,W.cell? ⟨2,0,none⟩=some (.int .i64 m):=
 aKp (t:=3) (zero:= #[.int .i64 0]) hsh (aO3 qB) qB rfl qB qB Tryz.underlying3
def aKr:Ren:=⟨λx=>x,λx=>if x=5 then 5 else if x=119 then 246 else if x=138 then 248 else 249,λx=>if x=3 then 0 else 1⟩
theorem aKs {w:pZ}{a:Addr}{v:qA}(h:w.cell? a=some v):a.block<w.heap.size:=by
 unfold World.cell? at h;split at h
 .rename_i hb;exact(aOB.1 hb).1
 cases h
theorem aKt {P:Program}{w:pZ}{n:String}{g:Nat}{cs:Array qA}(hg:P.globalNamed n=some g) (h:w.var? P n=some cs): ∃e fz,w.heap[g]? =some (.cells cs e fz):=by
 unfold World.var? at h;rw[hg,aOc] at h;split at h
 .rename_i cs' e fz hh;cases h;exact⟨e,fz,hh⟩
 cases h
theorem aKu {W:pZ}(hL:laidMet Tryz.prog Rows.reviseAtomsRow.laid W) (hsh:W.ShapedOpen Tryz.prog):J5 W:=by
 obtain⟨m,hm⟩:=aKq hsh;have h0:=laidMet.reads hL (.tail _ (.head _));have hp:=laidMet.reads hL (.tail _ (.tail _ (.head _)));have h1:=laidMet.reads hL (.tail _ (.tail _ (.tail _ (.head _))));rw[aKn] at hp;have h2:=laidMet.reads hL (.tail _ (.tail _ (.tail _ (.tail _ (.head _)))));rw[aKo] at h0;rw[aKl] at h2;rw[aKm] at h1;have hU:Lib.Utf8Tabs 0 1 W:=utf8Tabs_of_readsT (ρ:=aKr) ⟨qB,qB,qB,qB⟩ ⟨qB,qB,qB,qB,qB,qB,qB⟩ h2 h1;have hT:W.cell? ⟨5,15,none⟩=some (.int .u8 4):=by
  obtain⟨g,t,cs,fuel,p,hg,ht,hv,hd⟩:=h0;have hg0:Tryz.prog.globalNamed "math/bits.deBruijn64tab" =some 5:=by kernel_rfl
  have ht0:(Tryz.prog.globals[5]?).map (·.type)=some 306:=by kernel_rfl
  obtain rfl:=aOj (hg0.symm.trans hg);obtain rfl:=aOj (ht0.symm.trans ht);have hc:=cells_of_tab Tryz.underlying306 Tryz.underlying5 qB qB hd;rw[World.var?_cell hg hv 15,<-aPJ,hc];rfl
 have hP: ∃e fz,W.heap[3]? =some (.cells (Lib.pow10Tab.map λz=>Value.int .u64 z).toArray e fz):=by
  obtain⟨g,t,cs,fuel,p,hg,ht,hv,hd⟩:=hp;have hg0:Tryz.prog.globalNamed "internal/strconv.uint64pow10" =some 3:=by kernel_rfl
  have ht0:(Tryz.prog.globals[3]?).map (·.type)=some 293:=by kernel_rfl
  obtain rfl:=aOj (hg0.symm.trans hg);obtain rfl:=aOj (ht0.symm.trans ht);have hc:=cells_of_tab Tryz.underlying293 Tryz.underlying270 qB qB hd;rw[<-hc];exact aKt hg hv
 refine⟨?_,hU,⟨m,hm⟩,λx hx=>?_,λx hx=>?_⟩
 .have b0:5<W.heap.size:=aKs hT;obtain⟨e,fz,h⟩:=hP;have b1:3<W.heap.size:=(aOB.1 h).1;show 6<=W.heap.size;omega
 .unfold Bm at hx;obtain rfl:=aOs.1 hx;exact⟨pO,hT⟩
 unfold Bn at hx;obtain rfl:=aOs.1 hx;exact⟨pO,hP⟩
noncomputable def jv (os:Os):pZ:=
 let w0:=World.holding Tryz.prog os ⟨#[],#[],[]⟩
 let tH (h:Array Obj) (g:Nat) (cs:Array qA):Array Obj:=h.modify g fun
  | .cells _ t frozen=> .cells cs t frozen
  |o=>o
 let h1:=tH w0.heap 0 (Lib.firstTab.map λz=>Value.int .u8 z).toArray
 let h2:=tH h1 1 ((List.range 16).flatMap λi=>[Value.int .u8 (Lib.accLo i),Value.int .u8 (Lib.accHi i)]).toArray
 let h3:=tH h2 5 (a6m.map λz=>Value.int .u8 z).toArray
 let h4:=tH h3 4 (([0,1,28,2,29,14,24,3,30,22,20,15,25,17,4,8,31,27,13,23,21,19,16,7,26,12,18,6,11,5,10,9]:pU).map λz=>Value.int .u8 z).toArray
 let h5:=tH h4 3 ((List.range 20).map λi=>Value.int .u64 (10^i)).toArray
 {w0 with heap:=h5}
theorem aKv (os:Os) (args:Array qA):laidMet Tryz.prog Rows.reviseAtomsRow.laid ((jv os).forCall (λ_ _=>0) ⟨#[],args,[]⟩).memory:=
 (LaidIn.of_run [4,5,3,1,0] 8 qB qB qB qB:LaidIn Tryz.prog _ Rows.reviseAtomsRow.laid _).met
end Go.Proofs.YtedimeeleabhnaaGreatDoor
namespace Go.Proofs.YtedimeeleabhnaaGreatDoor
open Vc Go.RowKit
inductive Bj where
 |ty (t:TypeId) |fs (o:Nat) (l:List Field)
inductive yX (P:Program):Bj->Ty->Prop
 |bool {t}:P.underlying t=some .bool->yX P (.ty t) .bool
 |int {t k}:P.underlying t=some (.int k)->yX P (.ty t) (.int k)
 |str {t}:P.underlying t=some .string->yX P (.ty t) .str
 |list {t e u}:P.underlying t=some (.slice e)->P.cellsOf e=u.cells->0<u.cells->0<P.bytesOf e->yX P (.ty e) u->yX P (.ty t) (.list u)
 |struct {t fs ty}:ty.isRow=true->P.underlying t=some (.struct fs)->P.cellsOf t=ty.cells->yX P (.fs 0 fs.toList) ty->yX P (.ty t) ty
 |nil {o}:yX P (.fs o []) .unit
 |cons {o}{f:Field}{r a b}:f.offset=o->P.cellsOf f.type=a.cells->yX P (.ty f.type) a->yX P (.fs (o+a.cells) r) b->yX P (.fs o (f::r)) (.pair a b)
def Bd:(t:Ty)->t.den->Prop
 | .str,s=>List.length s<=140737488351232
 | .int k,n=>(Lit.int k n).wf=true
 | .list u,l=>List.length l<=140737488351232/\∀x:u.den,x∈(l:List u.den)->Bd u x
 | .pair a b,x=>Bd a x.1/\Bd b x.2
 |_,_=>True
def J4 (w:pZ):Gh:=⟨λb _=>b<w.heap.size,λ_=>none,λ_ _=>none⟩
theorem a6n {α:Type}{R:α->pV->Prop}{w:pZ}{S:Nat->Nat->Prop}{c b:Nat}: ∀{l:List α}{o:Nat},(∀i x,l[i]? =some x->∃cs,cs.length=c/\w.rangeAt b (o+i*c) cs/\(∀j,j<c->S b (o+i*c+j))/\R x cs)->wH R w S c b o l
 |[],_,_=>trivial
 |x::l,o,h=>by
  refine⟨?_,a6n λi y hy=>?_⟩
  .obtain⟨cs,h1,h2,h3,h4⟩:=h 0 x rfl;exact⟨cs,h1,by simpa using h2,by simpa using h3,h4⟩
  obtain⟨cs,h1,h2,h3,h4⟩:=h (i+1) y (by simpa using hy);have e:o+(i+1)*c=o+c+i*c:=by rw[aPd];omega
  exact⟨cs,h1,by rw[<-e];exact h2,by rw[<-e];exact h3,h4⟩
section
variable {H:Type}{enc:TypeId×qA->H}{P:Program}{W:pZ}
theorem a6o {e:TypeId}: ∀{l:List (DataW H)}{i:Nat}{d:DataW H},l[i]? =some d->∀n∈d.weights P e,n∈DataW.weightsAll P e l
 |d0::l,0,d,h,n,hn=>by
  simp only[aOL,aOf] at h;subst h;simp only[DataW.weightsAll,aOR];exact .inl hn
 |d0::l,i+1,d,h,n,hn=>by
  simp only[aOZ] at h;simp only[DataW.weightsAll,aOR];exact .inr (a6o h n hn)
 |[],_,_,h,_,_=>by simp at h
def aKw (enc:TypeId×qA->H) (P:Program) (W:pZ):Bj->Ty->Prop
 | .ty t,u=> ∀(fuel:Nat) (cs:pV) (y:DataW H×List MemPlace),DataW.trod enc P W 0 (λ_=>true) true fuel t cs=some y->(∀n∈y.1.weights P t,n<=reachBytes)->∃x:u.den,Rd (J4 W) W u x cs/\Bd u x
 | .fs o l,u=> ∀(fuel:Nat) (cs:pV) (xs:List (DataW H×List MemPlace)),cs.length=o+u.cells->xs.length=l.length->(∀(i:Nat) (f:Field),l[i]? =some f->DataW.trod enc P W 0 (λ_=>true) true fuel f.type ((cs.drop f.offset).take (P.cellsOf f.type))=xs[i]?)->(∀n∈DataW.weightsEach P (l.map (·.type)) (xs.map (·.1)),n<=reachBytes)->∃x:u.den,Rd (J4 W) W u x (cs.drop o)/\Bd u x
theorem aKx {e:TypeId}{u:Ty}{a:Addr}{len cap:Nat}(hc:P.cellsOf e=u.cells) (hpos:0<u.cells) (hcap:len<=cap)
  (each: ∀i,i<len->∃(cs:pV) (x:u.den),W.cells? 0 (a.add (i*u.cells)) u.cells=some cs/\Rd (J4 W) W u x cs/\Bd u x):
  ∃l:List u.den,l.length=len/\Rd (J4 W) W (.list u) l [.slice (some a) len cap]/\∀x∈l,Bd u x:=by
 have build: ∀k,k<=len->∃l:List u.den,l.length=k/\∀i x,l[i]? =some x->∃cs:pV,W.cells? 0 (a.add (i*u.cells)) u.cells=some cs/\Rd (J4 W) W u x cs/\Bd u x:=by
  intro k
  induction k with
  |zero=>intro _;exact⟨[],rfl,λi x h=>by simp at h⟩
  |succ k ih=>
   intro hk;obtain⟨l,h1,h2⟩:=ih pN;obtain⟨cs,x,h3,h4⟩:=each k pN;refine⟨l++[x],by simp [h1],λi y hy=>?_⟩;rw[List.getElem?_append] at hy;split at hy
   .exact h2 i y hy
   rename_i hi;obtain⟨j,hj⟩: ∃j,i=l.length+j:=⟨i-l.length,pN⟩;subst hj;rw[aOW] at hy;cases j with
   |zero=>
    simp only[aOL,aOf] at hy;subst hy;exact⟨cs,by rw[aPm,h1];exact h3,h4⟩
   |succ j=>simp at hy
 obtain⟨l,hll,hle⟩:=build len (aOA _);refine⟨l,hll,?_,λx hx=>?_⟩
 .subst hll;by_cases hl0:l=[]
  .subst hl0;exact⟨some a,cap,rfl,hcap,.inl rfl⟩
  obtain⟨b,off,spot⟩:=a;have hlp:0<l.length:=aP1.2 hl0;have hspot:spot=none:=by
   obtain⟨cs,x,h3,_⟩:=each 0 hlp;have h4:=(World.cells?_some h3).2.2 0 hpos;have hlen0:=(World.cells?_some h3).2.1;rw[aOn pN] at h4;simpa[Addr.add] using World.cell?_spot h4
  subst hspot;refine⟨_,cap,rfl,hcap,.inr ⟨b,off,rfl,a6n λi x hx=>?_⟩⟩;obtain⟨cs,h3,h4,_⟩:=hle i x hx;obtain⟨_,h5,h6⟩:=World.cells?_some h3;have hcell: ∀j v,cs[j]? =some v->W.cell? ⟨b,off+i*u.cells+j,none⟩=some v:=by
   intro j v hv;have hj:j<u.cells:=by have:=(aOw.1 hv).1;omega
   have:=h6 j hj;rw[hv] at this;rw[Addr.add_lit,Addr.add_lit] at this;exact this
  refine⟨cs,h5,hcell,λj hj=>?_,h4⟩;exact Vc.nh (hcell 0 _ (aOn pN))
 obtain⟨i,hi,he⟩:=aPD hx;obtain⟨cs,h3,h4,h5⟩:=hle i x (by rw[aOn hi,he]);exact h5
theorem aKy {ix:Bj}{u:Ty}(h:yX P ix u):aKw enc P W ix u:=by
 induction h with
 |bool ht=>
  intro fuel cs y hy _;obtain⟨b,rfl,_⟩:=DataW.trod_bool ht hy;exact⟨b,rfl,trivial⟩
 |int ht=>
  intro fuel cs y hy _;obtain⟨n,rfl,_,hw⟩:=DataW.trod_int ht hy;exact⟨n,rfl,hw⟩
 |str ht=>
  intro fuel cs y hy hw;obtain⟨s,rfl,rfl,_⟩:=DataW.trod_string ht hy;refine⟨s.data.toList,by show [Value.string s]=[Value.string ⟨s.data.toList.toArray⟩];rw[aPv],?_⟩;exact hw _ (by simp [DataW.weights])
 | @list t e u ht hc hpos hb _ ih=>
  intro fuel cs y hy hw;rcases DataW.trod_slice ht hy with⟨rfl,_⟩ |⟨a,len,cap,elems,rest,n,_,rfl,rfl,_,hl,_,hlen,hall,_,_⟩
  .exact⟨[],⟨none,0,rfl,aOA _,.inl rfl⟩,by simp,λx hx=>by cases hx⟩
  .have hws:DataW.weights P t (.slice (elems.map (·.1)) (rest.map (·.1)))=((elems.map (·.1)).length+(rest.map (·.1)).length)*P.bytesOf e::(DataW.weightsAll P e (elems.map (·.1))++DataW.weightsAll P e (rest.map (·.1))):=by
    simp [DataW.weights,ht]
   rw[hws] at hw;have hn:=hw _ aOz;obtain⟨l,h1,h2,h3⟩:=aKx (W:=W) (a:=a) (cap:=cap) hc hpos hl λi hi=>by
    have h1:=hall i hi;rw[hc,aOn pN,Option.bind_eq_some_iff] at h1;obtain⟨cs,h2,h3⟩:=h1;obtain⟨x,hx⟩:=ih n cs _ h3 λm hm=>hw m (by
     refine aOu _ (aOR.2 (.inl (a6o (i:=i) ?_ m hm)));rw[List.getElem?_map,aOn pN];rfl)
    exact⟨cs,x,h2,hx⟩
   refine⟨l,h2,?_,h3⟩;have:elems.length<=(elems.length+rest.length)*P.bytesOf e:=by
    calc elems.length<=(elems.length+rest.length)*1:=by omega
     _<=_:=Nat.mul_le_mul_left _ hb
   simp only[aPa] at hn;have hr:reachBytes=140737488351232:=rfl;show l.length<=_;omega
 |struct hrow ht hcl _ ih=>
  intro fuel cs y hy hw;obtain⟨xs,n,rfl,rfl,hl,hlen,hf⟩:=DataW.trod_struct ht hy;have:=ih n cs xs (by rw[hl,hcl];omega) (by rw[hlen];simp) (λi f hi=>hf i f (by simpa using hi)) λm hm=>hw m (by simpa[DataW.weights,ht] using hm);rwa [aOP] at this
 |nil=>
  intro fuel cs xs hl _ _ _;refine⟨(),?_,trivial⟩;show cs.drop _=[];exact List.drop_of_length_le (by simp [Ty.cells] at hl;omega)
 | @cons o f r a b ho hc _ _ iha ihb=>
  intro fuel cs xs hl hx hf hw;cases xs with
  |nil=>simp at hx
  |cons x0 xs=>
   have h0:=hf 0 f rfl;rw[hc,ho] at h0;obtain⟨xa,ra,ba⟩:=iha fuel _ x0 h0 λm hm=>hw m (by simp only[aO7,DataW.weightsEach,aOR];exact .inl hm);obtain⟨xb,rb,bb⟩:=ihb fuel cs xs (by simp only[Ty.cells] at hl;omega) (by simpa using hx) (λi f' hi=>by have:=hf (i+1) f' (by simpa using hi);simpa using this) λm hm=>hw m (by simp only[aO7,DataW.weightsEach,aOR];exact .inr hm);refine⟨(xa,xb),⟨_,_,(aPV a.cells (cs.drop o)).symm,ra,?_⟩,ba,bb⟩;rw[aPj];exact rb
theorem a6p {t:TypeId}{u:Ty}{base:Nat}{v:qA}{d:DataW H}{ps:List MemPlace}(h:yX P (.ty t) u) (hok:Value.okWide P W .any base t v) (hT:DataW.Trod enc P W 0 (λ_=>true) true t v d ps) (hw: ∀n∈d.weights P t,n<=reachBytes): ∃x:u.den,sS (J4 W) W u x v/\Bd u x:=by
 obtain⟨fuel,hf⟩:=hT;obtain⟨x,hx,hb⟩:=aKy (enc:=enc) (W:=W) h fuel _ _ hf hw;refine⟨x,?_,hb⟩;cases h with
 |bool ht=>obtain⟨b,rfl⟩:=Go.WideShapes.okWide_bool ht hok;exact .inr ⟨rfl,hx⟩
 |int ht=>obtain⟨b,rfl⟩:=Go.WideShapes.okWide_int ht hok;exact .inr ⟨rfl,hx⟩
 |str ht=>obtain⟨b,rfl⟩:=Go.WideShapes.okWide_string ht hok;exact .inr ⟨rfl,hx⟩
 |list ht=>obtain⟨a,l,c,rfl⟩:=Go.WideShapes.okWide_slice ht hok;exact .inr ⟨rfl,hx⟩
 |struct hrow ht=>obtain⟨cs,rfl,_⟩:=Go.WideShapes.okWide_struct ht hok;exact .inl ⟨hrow,cs.toList,by rw[aPv],hx⟩
end
end Go.Proofs.YtedimeeleabhnaaGreatDoor
namespace Go.Proofs.YtedimeeleabhnaaGreatDoor
open Vc
open Go.ChangeShapes Go.WideShapes Go.ChangeAt Go.RowKit
theorem QR:yX Tryz.prog (.ty 9) .str:= .str Tryz.underlying9
theorem Bk:yX Tryz.prog (.ty 22) (.list .str):= .list Tryz.underlying22 qB pO (aO3 qB) QR
theorem aKz:yX Tryz.prog (.ty 58) (.pair .str (.pair .str .unit)):=by
 refine .struct rfl Tryz.underlying58 qB ?_;exact .cons rfl qB QR (.cons rfl qB QR .nil)
theorem a6q:yX Tryz.prog (.ty 23) (.list (.pair .str (.pair .str .unit))):= .list Tryz.underlying23 qB pO (aO3 qB) aKz
theorem aKA:yX Tryz.prog (.ty 51) tJ:=by
 refine .struct rfl Tryz.underlying51 qB ?_;exact .cons rfl qB QR (.cons rfl qB QR (.cons rfl qB QR (.cons rfl qB Bk (.cons rfl qB Bk (.cons rfl qB (.int Tryz.underlying3) (.cons rfl qB a6q .nil))))))
theorem aKB:yX Tryz.prog (.ty 24) (.list tJ):= .list Tryz.underlying24 qB pO (aO3 qB) aKA
theorem a6r:yX Tryz.prog (.ty 26) vL:=by
 refine .struct rfl Tryz.underlying26 qB ?_;exact .cons rfl qB QR (.cons rfl qB Bk (.cons rfl qB a6q (.cons rfl qB aKB .nil)))
theorem aKC {x:x9}(h:Bd tJ x):yl x:=by
 obtain⟨h1,h2,h3,⟨h4,k4⟩,⟨h5,k5⟩,_,⟨h7,k7⟩,_⟩:=h;exact⟨h1,h2,h3,⟨h4,k4⟩,⟨h5,k5⟩,h7,λy hy=>⟨(k7 y hy).1,(k7 y hy).2.1⟩⟩
theorem a6s {c:C4}(h:Bd vL c):UK c:=by
 obtain⟨h1,⟨h2,k2⟩,⟨h3,k3⟩,⟨h4,k4⟩,_⟩:=h;exact⟨h1,⟨h2,k2⟩,⟨h3,λy hy=>⟨(k3 y hy).1,(k3 y hy).2.1⟩⟩,λx hx=>aKC (k4 x hx)⟩
theorem aKD {W:pZ}(hT:J5 W) (v:qA) (c:C4) (u:qA) (d:C4) (hv:sS (J4 W) W vL c v) (hu:sS (J4 W) W vL d u) (hB:Bd vL c) (hD:Bd vL d):
  Calls Tryz.prog 4 #[v,u] W λe W'=>e= .returned (.bool true)/\Below W.heap.size W W':=by
 have hC:xy (ft c d) xx=some (XM c d):=aHg _ _;have ht:=aKh (a6s hB) hB.2.2.2.1.1 (a6s hD) hD.2.2.2.1.1;refine(aHi.1.2 (J4 W) W (ft c d) [v,u] [] _ ⟨(λi b h=>by cases h),(λi j bi bj b o _ h=>by cases h),λb o h=>h,hT,(λi blk b o h=>by cases h)⟩ ⟨v,[u],rfl,⟨hv,trivial⟩,u,[],rfl,⟨hu,trivial⟩,rfl⟩ hC ?_).mono λe W' ⟨v,g',he,r⟩=>?_
 .intro p hp;have:p=((Q0 c d).isSome=true):=by simpa[XM] using hp
  rw[this,ht];rfl
 have hv:v= .bool true:=by
  have h1:=r.ret;unfold XM at h1;rw[ht] at h1;exact vT h1.1
 subst hv;exact⟨he,⟨r.fr.os,r.fr.tape,r.fr.output,r.fr.size,λk hk=>r.fr.blk k hk (λo ⟨i,blk,hi,_⟩=>by cases hi)⟩⟩
end Go.Proofs.YtedimeeleabhnaaGreatDoor
namespace Go.Proofs.YtedimeeleabhnaaGreatDoor
open Go.ChangeShapes Go.WideShapes Go.ChangeAt Go.RowKit Go.Lib
theorem aKE:(Rows.reviseRevisionRow.inPlace==Tryz.prog.inPlace 4)=true:=by kernel_rfl
theorem aKF:(Rows.reviseRevisionRow.unfollowed==Tryz.prog.unfollowed 4)=true:=by kernel_rfl
theorem aKG:(Rows.reviseRevisionRow.recurses==Tryz.prog.recurses 4)=true:=by kernel_rfl
theorem aKH:(Rows.reviseRevisionRow.named==Tryz.prog.varsNamed 4)=true:=by kernel_rfl
theorem aKI:joinedFacts Tryz.prog 4 Tryz.f4 Rows.reviseRevisionSpec Rows.reviseRevisionRow=true:=by
 unfold joinedFacts;rw[aKE,aKF,aKG,aKH]
 kernel_rfl
namespace reviseRevisionLaw
theorem own:ownKnob Tryz.prog.godebug=none:=by kernel_rfl
theorem H0:laidOutB Tryz.prog=true:=by kernel_rfl
theorem aKJ:Tryz.prog.readableRec 26=true:=by kernel_rfl
theorem ltC:26<Tryz.prog.types.size:=aO3 qB
def H1:qA:= .agg #[.string ⟨#[]⟩,.slice none 0 0,.slice none 0 0,.slice none 0 0]
theorem aKL (os:Os) {H:Type}(enc:TypeId×qA->H):
  (OpenSpec.ofChange Rows.reviseRevisionSpec).preRow enc Tryz.prog Tryz.f4 [] false Rows.reviseRevisionRow.laid ((jv os).forCall (λ_ _=>0) ⟨#[],#[H1,H1],[]⟩).memory #[H1,H1]:=by
 have hw:(DataW.whole enc Tryz.prog ((jv os).forCall (λ_ _=>0) ⟨#[],#[H1,H1],[]⟩).memory Tryz.f4.params.toList (OpenSpec.ofChange Rows.reviseRevisionSpec).vars false #[H1,H1].toList 8).map (λx=>(x.1,x.2.1))=
   some ([.agg [.lit (.string []),.nil,.nil,.nil],.agg [.lit (.string []),.nil,.nil,.nil]],[]):=by kernel_rfl
 obtain⟨⟨x1,x2,x3⟩,hx,hx1⟩:=aOq.1 hw;simp only[aOJ] at hx1;obtain⟨rfl,rfl⟩:=hx1;exact OpenSpec.preRow_of_cond 8 hx qB (λk hk=>by cases hk) qB (aKv os _)
theorem lifted (os:Os) (started:os.Started) (H:Type) (enc:TypeId×qA->H) (F:Stop.Interp):
  ReturnsInHanded {} Tryz.checked os 4 .any ((OpenSpec.ofChange Rows.reviseRevisionSpec).preRow enc Tryz.prog Tryz.f4 [] false Rows.reviseRevisionRow.laid) (Rows.reviseRevisionSpec.post enc Tryz.prog Tryz.f4 false true false false):=by
 refine aKk (C:=Tryz.checked) (tb:=4) own started F qB Tryz.func4 H0 ?_ rfl rfl Tryz.underlying4 ?_
  (witness_row_atRef (enc:=enc) (C:=Tryz.checked) false (jv os) #[H1,H1] rfl qB qB qB (aKL os enc)) ?_
 .intro t ht;rw[Tryz.params4] at ht;simp only[aOv,aPr,or_false] at ht;rcases ht with rfl|rfl
  all_goals exact⟨aKJ,ltC⟩
 .intro ds W args ps h;have h':DataW.TrodAll enc Tryz.prog W 0 (λ_=>true) true Tryz.f4.params.toList args.toList ds ps:=h;rw[Tryz.params4] at h';obtain⟨v0,v1,d0,d1,p0,p1,rfl,rfl,rfl,h0,h1⟩:=trodAll_two h';rfl
 intro W base args ds ps hval0 hA0 hlt hsz0 hL hsh;have hval: ∀(j:Nat) t v,Tryz.f4.params[j]? =some t->args[j]? =some v->Value.okWide Tryz.prog W .any base t v:=hval0;have hA:DataW.TrodAll enc Tryz.prog W 0 (λ_=>true) true Tryz.f4.params.toList args.toList ds ps:=hA0;have hsz:(DataW.weightsEach Tryz.prog Tryz.f4.params.toList ds).all (·<=reachBytes)=true:=hsz0;rw[Tryz.params4] at hA hval hsz;obtain⟨v0,v1,d0,d1,p0,p1,rfl,rfl,rfl,h0,h1⟩:=trodAll_two hA;obtain⟨c,hv,hB⟩:=a6p a6r (hval 0 26 v0 rfl rfl) h0 (λn hn=>by
  have:=aPh.1 hsz n (DataW.weights_mem_each (j:=0) rfl rfl n hn);simpa using this)
 obtain⟨d,hu,hD⟩:=a6p a6r (hval 1 26 v1 rfl rfl) h1 (λn hn=>by
  have:=aPh.1 hsz n (DataW.weights_mem_each (j:=1) rfl rfl n hn);simpa using this)
 exact aKD (aKu hL hsh) v0 c v1 d hv hu hB hD
end reviseRevisionLaw
theorem a6t:Rows.ReviseRevisionSaid:=
 OpenClaim.holds_of_wide 4 Tryz.f4 rfl rfl rfl rfl rfl rfl rfl ⟨rfl,rfl,rfl,rfl,rfl⟩ rfl rfl rfl rfl rfl qB Tryz.func4 aKI
  (aO3 qB) (by unfold Func.isWrapper;first|(rw[aOd (by decide+kernel)];kernel_rfl) |(rw[aOi (by decide+kernel)];exact⟨rfl,rfl⟩))
  (λos started H enc _=>by rw[OpenClaim.pre_eq_preRow];exact reviseRevisionLaw.lifted os started H enc (λ_ _ _=>0))
#print axioms a6t
end Go.Proofs.YtedimeeleabhnaaGreatDoor
namespace Go.Proofs.YtedimeeleabhnaaGreatDoor
open Go
theorem aKM:Rows.reviseRevisionRow.wfByText (OpenSpec.ofChange Rows.reviseRevisionSpec)=true:=by kernel_rfl
theorem aKN:Tryz.prog.mainIs=some (true, "9011cd62ecf000981dcc54e00db774e6eb98add8cd041cfea77abe0e6c809ef6".toList):=by kernel_rfl
theorem aKO:false=Tryz.prog.looks []:=by kernel_rfl
theorem aKP:false=Rows.reviseRevisionRow.goesBy Tryz.prog:=by kernel_rfl
theorem aKQ:Tryz.prog.funcNamed "calque/calquelaw48.ReviseRevision" =some 4:=by kernel_rfl
theorem aKR:([26,26].all λu=> !Tryz.prog.wantsStandIn u)=true:=by kernel_rfl
theorem reviseRevisionCard_holds:Rows.ReviseRevisionCardSaid:=
 Claim7.holds_tied_plain_at .later [] [.data,.data,.data,.data,.pinned] true (true, "9011cd62ecf000981dcc54e00db774e6eb98add8cd041cfea77abe0e6c809ef6") false
  a6t (λ_ h=>by cases h) aKM (λ_ h=>by cases h) reviseRevision_row_tie rfl ⟨rfl,rfl⟩ aKN rfl
  (λf fn hf hfn=>by
   obtain rfl:f=4:=aOj (aKQ.symm.trans hf) |>.symm
   obtain rfl:fn=Tryz.f4:=(aOj (Tryz.func4.symm.trans hfn)).symm;exact⟨aKO,λj t ht=>by
    rw[Tryz.params4] at ht;have hm:t∈[26,26]:=by simpa using Array.mem_of_getElem? ht
    exact(show Tryz.prog.wantsStandIn t=false by simpa using aPh.1 aKR t hm)⟩)
  aKP
#print axioms reviseRevisionCard_holds
end Go.Proofs.YtedimeeleabhnaaGreatDoor
