/- TreeInverse returns true for every catalog and body (a printed catalog reads back, what is read prints and reads back): the tied card of the statement, over the row's statement. No condition. -/
/- Packed by a program of mine (wip/tools/pack.py): the same texts with short names and few blanks. -/
import Derived.Deep.CondSized
import Derived.Deep.DeepHandedRow
import Derived.Deep.DeepWitnessRowRef
import Derived.Lib.LaidIn
import Derived.Lib.LaidTab
import Derived.Lib.LaidU8T
import Derived.OpenShut
import Derived.ProofKit
import Derived.SevenTiedAt
import Derived.SizedLaws
import Derived.Test.YtbbpilohihldiaaGreatDoorCards
import Derived.Test.YtbbpilohihldiaaGreatDoorRows
import Derived.Test.YtbbpilohihldiaaGreatDoorTie
import Derived.WalkKit
import Derived.Test.YtbbpilohihldiaaGreatDoorJ04
set_option linter.unusedVariables false
set_option linter.unusedSimpArgs false
set_option linter.unusedSectionVars false
set_option maxRecDepth 100000
set_option maxHeartbeats 4000000
namespace Go.Proofs.YtbbpilohihldiaaGreatDoor
open Vc
structure L3 (sr tg:List UInt8) (cm fg:List (List UInt8)) (st:Int) (fd:List rF):Prop where
 sr:sA sr=true
 tg:sA tg=true
 cm:vR cm=true
 fg:CD fg=true
 st:0<=st/\st<=4
 fd:vS fd=true
theorem aQE:L3 [] [] [] [] 0 []:=⟨by decide,by decide,by decide,by decide,by decide,by decide⟩
theorem aRr (x:List UInt8) (h: ¬tN x<0):0<=tN x/\tN x<=4:=by
 refine⟨by omega,?_⟩;unfold tN at h⊢;cases hk:wI.findIdx? fun y=>decide (y=x) with
 |none=>exact show ((-1:Int))<=4 by decide
 |some k=>
  have hl:k<wI.length:=(aUf.1 hk).1;have hl':wI.length=5:=rfl;show ((k:Nat):Int)<=4;omega
section
variable {s:List UInt8}(hsm:s.length<=4000000000) {c:C4}{bad bad0 at0 e0:Int}{ends:List Int}{i:rD}{hd:Bool}
include hsm
def aQG (s:List UInt8) (P:Nat) (bad:Int) (rs:NQ):Prop:=
 rs.2.2.1≠0\/∃(P':Nat) (sr tg:List UInt8) (cm fg:List (List UInt8)) (st:Int) (fd:List rF) (d1 d2 d3:Bool),P<P'/\P'<=s.length/\rs=((P':Int),bad,0,sr,tg,cm,fg,st,fd,d1,d2,d3)/\L3 sr tg cm fg st fd
theorem aQH {P:Nat}{sr tg:List UInt8}{cm fg:List (List UInt8)}{st:Int}{fd:List rF}{d1 d2 d3:Bool}(hP:P<=s.length) (hk:kS s P=2) (h:L3 sr tg cm fg st fd):
  ∃rs:NQ,uG (s,(at0,(bad0,(e0,(c,(ends,())))))) i hd ((P:Int),bad,0,sr,tg,cm,fg,st,fd,d1,d2,d3)=some (.inl rs)/\aQG s P bad rs:=by
 have hPQ:P<nS s P:=BM (by omega) (by omega);have hQ:=(sG hP).2;have hR:=sG hQ;rw[AX hsm hP hk];have hcl:=(IZ h.cm).1;have hfl:=(X6 h.fg).1;have hdl:=(J0 h.fd).1;have e3:(3:Int)≠0:=by decide
 have e6:(6:Int)≠0:=by decide
 have e9:(9:Int)≠0:=by decide
 by_cases h1:xS s P=xL
 ·by_cases h20:20<=cm.length
  ·rw[aHs hsm hQ h1 h20,aTC];exact⟨_,rfl,.inl e6⟩
  ·rw[a8E hsm hQ h1 h20,aTC];by_cases k1:kS s (nS s P)=1
   ·rw[aTD k1];exact⟨_,rfl,.inr ⟨nS s (nS s P),_,_,_,_,_,_,_,_,_,by omega,by omega,rfl,h.sr,h.tg,aQB h.cm h20 (RU k1),h.fg,h.st,h.fd⟩⟩
   ·rw[aTG k1];exact⟨_,rfl,.inl e3⟩
 ·by_cases h2:xS s P=zF
  ·rw[a8F hsm hQ h2 (by omega),aTC];unfold FH;by_cases k1:kS s (nS s P)≠1
   ·rw[aTD k1];exact⟨_,rfl,.inl e3⟩
   ·rw[aTG k1];by_cases k2:rY (xS s (nS s P))=false
    ·rw[aTD k2];exact⟨_,rfl,.inl e3⟩
    ·rw[aTG k2];by_cases k3:(fd.any fun y=>decide (y.1=xS s (nS s P)))=true
     ·rw[aTD k3];exact⟨_,rfl,.inl e9⟩
     ·rw[aTG k3];by_cases k4:20<=fd.length
      ·rw[aTD k4];exact⟨_,rfl,.inl e6⟩
      ·rw[aTG k4];have hS:=sG hR.2;by_cases k5:kS s (nS s (nS s P))≠1
       ·rw[aTD k5];exact⟨_,rfl,.inl e3⟩
       ·rw[aTG k5];exact⟨_,rfl,.inr ⟨nS s (nS s (nS s P)),_,_,_,_,_,_,_,_,_,by omega,by omega,rfl,h.sr,h.tg,h.cm,h.fg,h.st,aQD h.fd k4 (by simpa using k2) (RU (by omega)) k3⟩⟩
  ·cases hd with
   |true=>
    rw[aHt hsm hQ h1 h2,aTC];exact⟨_,rfl,.inl e3⟩
   |false=>
    by_cases h3:xS s P=D2
    ·rw[a8G hsm hQ h3 (by omega),aTC];unfold FI;by_cases k1:kS s (nS s P)≠2
     ·rw[aTD k1];exact⟨_,rfl,.inl e3⟩
     ·rw[aTG k1];by_cases k2:rY (xS s (nS s P))=false
      ·rw[aTD k2];exact⟨_,rfl,.inl e3⟩
      ·rw[aTG k2];by_cases k3:(fg.any fun y=>decide (y=xS s (nS s P)))=true
       ·rw[aTD k3];exact⟨_,rfl,.inl e9⟩
       ·rw[aTG k3];by_cases k4:20<=fg.length
        ·rw[aTD k4];exact⟨_,rfl,.inl e6⟩
        ·rw[aTG k4];exact⟨_,rfl,.inr ⟨nS s (nS s P),_,_,_,_,_,_,_,_,_,by omega,by omega,rfl,h.sr,h.tg,h.cm,aQC h.fg k4 (by simpa using k2) k3,h.st,h.fd⟩⟩
    ·rw[IN hsm hQ h1 h2 h3,aTC];by_cases k0:((decide (xS s P=tG)&&d1)||(decide (xS s P=tH)&&d2)||(decide (xS s P=tW)&&d3))=true
     ·rw[aTD k0];exact⟨_,rfl,.inl e9⟩
     ·rw[aTG k0];by_cases a1:xS s P=tG
      ·rw[aTD a1];by_cases k1:kS s (nS s P)=1
       ·rw[aTD k1];exact⟨_,rfl,.inr ⟨nS s (nS s P),_,_,_,_,_,_,_,_,_,by omega,by omega,rfl,RU k1,h.tg,h.cm,h.fg,h.st,h.fd⟩⟩
       ·rw[aTG k1];exact⟨_,rfl,.inl e3⟩
      ·rw[aTG a1];by_cases a2:xS s P=tH
       ·rw[aTD a2];by_cases k1:kS s (nS s P)=1
        ·rw[aTD k1];exact⟨_,rfl,.inr ⟨nS s (nS s P),_,_,_,_,_,_,_,_,_,by omega,by omega,rfl,h.sr,RU k1,h.cm,h.fg,h.st,h.fd⟩⟩
        ·rw[aTG k1];exact⟨_,rfl,.inl e3⟩
       ·rw[aTG a2];by_cases a3:xS s P=tW
        ·rw[aTD a3];by_cases k1:kS s (nS s P)=2
         ·rw[aTD k1];by_cases k2:tN (xS s (nS s P))<0
          ·rw[aTD k2];exact⟨_,rfl,.inl e3⟩
          ·rw[aTG k2];exact⟨_,rfl,.inr ⟨nS s (nS s P),_,_,_,_,_,_,_,_,_,by omega,by omega,rfl,h.sr,h.tg,h.cm,h.fg,aRr _ k2,h.fd⟩⟩
         ·rw[aTG k1];exact⟨_,rfl,.inl e3⟩
        ·rw[aTG a3];exact⟨_,rfl,.inl e3⟩
def aQI (s:List UInt8) (P:Nat) (bad:Int) (ends:List Int) (ro:S9⊕IR):Prop:=
 (∃r9,ro= .inl r9/\r9.2.2.1≠0)\/(∃r10,ro= .inr r10/\r10.2.2.1≠0)\/
 ∃(P':Nat) (sr tg:List UInt8) (cm fg:List (List UInt8)) (st:Int) (fd:List rF),P<=P'/\P'<=s.length/\ro= .inr ((P':Int),bad,0,ends++[(P':Int)],sr,tg,cm,fg,st,fd)/\L3 sr tg cm fg st fd
theorem aIB (he:ends.length<=5000): ∀(n P:Nat) (sr tg:List UInt8) (cm fg:List (List UInt8)) (st:Int) (fd:List rF) (d1 d2 d3:Bool),s.length-P<=n->P<=s.length->L3 sr tg cm fg st fd->
  ∃ro,qB (uG (s,(at0,(bad0,(e0,(c,(ends,())))))) i hd) ((P:Int),bad,0,sr,tg,cm,fg,st,fd,d1,d2,d3)=some ro/\aQI s P bad ends ro
 |n,P,sr,tg,cm,fg,st,fd,d1,d2,d3,hn,hP,h=>by
  by_cases hk:kS s P=2
  ·obtain⟨rs,h1,h2⟩:=aQH (c:=c) (bad:=bad) (bad0:=bad0) (at0:=at0) (e0:=e0) (ends:=ends) (i:=i) (hd:=hd) (d1:=d1) (d2:=d2) (d3:=d3) hsm hP hk h;rw[CH h1];rcases h2 with h2|⟨P',sr',tg',cm',fg',st',fd',d1',d2',d3',p1,p2,rfl,h3⟩
   ·obtain⟨p,b,e,q1,q2,q3,q4,q5,q6,q7,q8,q9⟩:=rs;rw[vU (RL h2)];exact⟨_,rfl,.inl ⟨_,rfl,h2⟩⟩
   ·match n,hn with
    |0,hn=>exact absurd p2 (by omega)
    |n+1,hn=>
     obtain⟨ro,r1,r2⟩:=aIB he n P' sr' tg' cm' fg' st' fd' d1' d2' d3' (by omega) p2 h3;refine⟨ro,r1,?_⟩;rcases r2 with r2|r2|⟨P2,a1,a2,a3,a4,a5,a6,g1,g2,g3,g4⟩
     ·exact .inl r2
     ·exact .inr (.inl r2)
     ·exact .inr (.inr ⟨P2,a1,a2,a3,a4,a5,a6,by omega,g2,g3,g4⟩)
  ·by_cases hx:kS s P=3/\xS s P=[125]
   ·rw[vU (a8J hsm hP hx.1 hx.2 he)];have hQ:=sG hP;exact⟨_,rfl,.inr (.inr ⟨nS s P,_,_,_,_,_,_,hQ.1,hQ.2,rfl,h⟩)⟩
   ·rw[vU (aHB hsm hP hk hx)];exact⟨_,rfl,.inr (.inl ⟨_,rfl,show (3:Int)≠0 by decide⟩)⟩
def aQJ (s:List UInt8) (P:Nat) (bad:Int) (ends:List Int) (r:IR):Prop:=
 r.2.2.1≠0\/∃(P':Nat) (sr tg:List UInt8) (cm fg:List (List UInt8)) (st:Int) (fd:List rF),P<=P'/\P'<=s.length/\r=((P':Int),bad,0,ends++[(P':Int)],sr,tg,cm,fg,st,fd)/\L3 sr tg cm fg st fd
theorem aIC {x:List UInt8}{P:Nat}(hP:P<=s.length) (he:ends.length<=5000): ∃r,xE (s,((P:Int),(bad,(0,(c,(ends,())))))) (i0 x) hd=some r/\aQJ s P bad ends r:=by
 unfold xE;rw[FG hsm hP,aTC];by_cases h1:(decide (kR (kS s P)=3)&&(decide (([123]:List UInt8)=[])||decide (xS s P=[123])))=true
 ·rw[wK h1];dsimp only;have hQ:=sG hP;obtain⟨ro,r1,r2⟩:=aIB (c:=c) (bad:=bad) (bad0:=bad) (at0:=(P:Int)) (e0:=0) (i:=i0 x) (hd:=hd) hsm he s.length (nS s P) [] [] [] [] 0 [] false false false (by omega) hQ.2 aQE;have r1':qB (uG (s,((P:Int),(bad,((0:Int),(c,(ends,())))))) (i0 x) hd) ((nS s P:Int),bad,0,(i0 x).2.1,(i0 x).2.2.1,(i0 x).2.2.2.1,(i0 x).2.2.2.2.1,(i0 x).2.2.2.2.2.1,(i0 x).2.2.2.2.2.2.1,false,false,false)=some ro:=r1;rw[r1'];rcases r2 with⟨r9,rfl,r2⟩ |⟨r10,rfl,r2⟩ |⟨P2,a1,a2,a3,a4,a5,a6,g1,g2,rfl,g4⟩
  ·exact⟨_,rfl,.inl r2⟩
  ·exact⟨_,rfl,.inl r2⟩
  ·exact⟨_,rfl,.inr ⟨P2,a1,a2,a3,a4,a5,a6,by omega,g2,rfl,g4⟩⟩
 ·rw[zE h1];dsimp only;rw[vU (RL (show (3:Int)≠0 by decide))];exact⟨_,rfl,.inl (show (3:Int)≠0 by decide)⟩
end
theorem aQK {id sr tg:List UInt8}{cm fg:List (List UInt8)}{st:Int}{fd:List rF}(hi:ED id=true) (ht:sA id=true) (h:L3 sr tg cm fg st fd):xH (id,(sr,(tg,(cm,(fg,(st,(fd,())))))))=true:=by
 unfold ED at hi;unfold xH;dsimp only;rw[aTL] at hi;rw[hi.1,hi.2,ht,h.sr,h.tg,h.cm,h.fg,h.fd,aUM h.st.1,aUM h.st.2];rfl
structure RV (es:List tC):Prop where
 len:es.length<=1000
 ok: ∀x∈es,xH x=true
 pw:es.Pairwise (fun a b=>a.1≠b.1)
section
variable {s:List UInt8}(hsm:s.length<=4000000000) {bad:Int}{ends:List Int}{tag:List UInt8}{cms:List (List UInt8)}{fds:List rF}{es:List tC}
include hsm
def aQL (s:List UInt8) (P:Nat) (bad:Int) (ends:List Int) (es:List tC) (r:E5):Prop:=
 r.2.2.1≠0\/∃(P':Nat) (y:tC),P<P'/\P'<=s.length/\r=((P':Int),bad,0,es++[y],ends++[(P':Int)])/\RV (es++[y])
theorem aQM {P:Nat}(hP:P<=s.length) (he:ends.length<=5000) (hes:RV es): ∃r,IJ (s,((P:Int),(bad,(0,((tag,(cms,(fds,(es,())))),(ends,()))))))=some r/\aQL s P bad ends es r:=by
 have hQ:=sG hP;have hR:=sG hQ.2;have e3:(3:Int)≠0:=by decide
 unfold IJ;rw[FG hsm hP,aTC];by_cases h0:(decide (kR (kS s P)=2)&&(decide (([101,110,116,114,121]:List UInt8)=[])||decide (xS s P=[101,110,116,114,121])))=true
 ·have hk:kS s P=2:=(AW (by decide) (by decide)).1 (by rw[aTL,aTK] at h0;exact h0.1);have hPQ:P<nS s P:=BM (by omega) (by omega);rw[wK h0];dsimp only;rw[CF hsm hQ.2 (by decide) (by decide),aTC];by_cases hk1:kS s (nS s P)=1
  ·rw[wK (by simpa using hk1)];dsimp only;rw[aTG (show¬(!decide ((0:Int)=0))=true from by decide),WY _ _ (show es.length<=5000 by have:=hes.len;omega),aTC,a8L];dsimp only;by_cases hid:(decide (xS s (nS s P)=[])||decide ((200:Int)<((xS s (nS s P)).length:Int)))=true
   ·rw[aTD hid];unfold rM;rw[wY];exact⟨_,rfl,.inl e3⟩
   ·rw[aTG hid];by_cases hdup:(es.any fun y=>decide (y.1=xS s (nS s P)))=true
    ·rw[aTD hdup];unfold rM;rw[wY];exact⟨_,rfl,.inl (show (9:Int)≠0 by decide)⟩
    ·rw[aTG hdup];by_cases hm:(1000:Int)<=(es.length:Int)
     ·rw[aTD (show decide ((1000:Int)<=(es.length:Int))=true from aUM hm)];unfold rM;rw[wY];exact⟨_,rfl,.inl (show (6:Int)≠0 by decide)⟩
     ·rw[aTG (show¬decide ((1000:Int)<=(es.length:Int))=true from by simpa using hm)];obtain⟨r,h1,h2⟩:=aIC (c:=(tag,(cms,(fds,(es,()))))) (bad:=bad) (hd:=false) (x:=xS s (nS s P)) hsm hR.2 he;have h1':xE (s,((nS s (nS s P):Int),(bad,((0:Int),((tag,(cms,(fds,(es,())))),(ends,())))))) (xS s (nS s P),([],([],([],([],(0,([],()))))))) false=some r:=h1;rw[h1',aTC,aTD (by simp;omega),aTD (by simp;omega)];rcases h2 with h2|⟨P',sr,tg,cm,fg,st,fd,g1,g2,rfl,g3⟩
      ·exact⟨_,rfl,.inl h2⟩
      ·refine⟨_,rfl,.inr ⟨P',(xS s (nS s P),(sr,(tg,(cm,(fg,(st,(fd,()))))))),by omega,g2,rfl,?_,?_,?_⟩⟩
       ·rw[aTH,aUl];omega
       ·intro x hx;rcases aUz.1 hx with hx|hx
        ·exact hes.ok x hx
        ·rw[aTQ.1 hx];refine aQK ?_ (RU hk1) g3;unfold ED;simp only[aUt,aTK,not_or] at hid;simp only[aTL,aT8,aUh,aTK];exact⟨hid.1,by omega⟩
       ·rw[aUV];refine⟨hes.pw,aVi _ _,fun a ha b hb=> ?_⟩;rw[aTQ.1 hb];intro e;exact hdup (List.any_eq_true.2 ⟨a,ha,aUM e⟩)
  ·rw[zE (by simpa using hk1)];dsimp only;rw[aTD (show (!decide ((3:Int)=0))=true from by decide)];exact⟨_,rfl,.inl e3⟩
 ·rw[zE h0];dsimp only;rw[RK hsm hP e3,aTC];dsimp only;rw[aTD (show (!decide ((3:Int)=0))=true from by decide)];exact⟨_,rfl,.inl e3⟩
theorem aID {rr:Int×Int×Int×List UInt8×List (List UInt8)×List pV×List Int}: ∀(n P:Nat) (es:List tC) (ends:List Int),s.length-P<=n->P<=s.length->RV es->ends.length=es.length+1->
  ∃ro,qB (w8 s rr) ((P:Int),bad,0,es,ends)=some ro/\(ro.2.2.1=0->RV ro.2.2.2.1/\ro.2.2.2.2.length=ro.2.2.2.1.length+1)
 |n,P,es,ends,hn,hP,hes,hle=>by
  have hg:=RA (KR hsm) hP;by_cases hlt:P+(G (s.drop P)).1<s.length
  ·obtain⟨r,h1,h2⟩:=aQM (bad:=bad) (tag:=rr.2.2.2.1) (cms:=rr.2.2.2.2.1) (fds:=rr.2.2.2.2.2.1) hsm hP (show ends.length<=5000 by have:=hes.len;omega) hes;have hst:w8 s rr ((P:Int),bad,0,es,ends)=some (.inl r):=by
    unfold w8;dsimp only;rw[hg,aTD uJ,aTD (show (decide ((0:Int)=0)&&decide (val (some (((P+(G (s.drop P)).1:Nat):Int)))<(s.length:Int)))=true from by
     show (decide ((0:Int)=0)&&decide (((P+(G (s.drop P)).1:Nat):Int)<(s.length:Int)))=true;simp;omega),h1,aTC]
   rw[CH hst];rcases h2 with h2|⟨P',y,p1,p2,rfl,h3⟩
   ·obtain⟨p,b,e,q1,q2⟩:=r;have h2':e≠0:=h2;have hs2:w8 s rr (p,b,e,q1,q2)=some (.inr (p,b,e,q1,q2)):=by
     unfold w8;dsimp only;rw[aTD (by intro hh;simp [h2'] at hh),aTG (by simp [h2'])]
    rw[vU hs2];exact⟨_,rfl,fun h=>absurd h h2'⟩
   ·match n,hn with
    |0,hn=>exact absurd p2 (by omega)
    |n+1,hn=>exact aID n P' _ _ (by omega) p2 h3 (by simp only[aTH,aUl];omega)
  ·have hst:w8 s rr ((P:Int),bad,0,es,ends)=some (.inr ((P:Int),bad,0,es,ends)):=by
    unfold w8;dsimp only;rw[hg,aTD uJ,aTG];show¬(decide ((0:Int)=0)&&decide (((P+(G (s.drop P)).1:Nat):Int)<(s.length:Int)))=true;simp;omega
   rw[vU hst];exact⟨_,rfl,fun _=>⟨hes,hle⟩⟩
def aQN (s:List UInt8) (r:H7):Prop:=
 r.2.2.1≠0\/∃(P':Nat) (tag:List UInt8) (cm:List (List UInt8)) (fd:List rF),P'<=s.length/\r=((P':Int),0,0,tag,cm,fd,[(P':Int)])/\tY tag=true/\vR cm=true/\vS fd=true
theorem aQO: ∃r,GX (s,((0:Int),((0:Int),((0:Int),((([]:List UInt8),(([]:List (List UInt8)),(([]:List pV),(([]:List rD),())))),(([]:List Int),()))))))=some r/\aQN s r:=by
 have hP:0<=s.length:=aUC _;have hQ:=sG hP;have hR:=sG hQ.2;have e3:(3:Int)≠0:=by decide
 have h1:w7 (s,(((0:Nat):Int),((0:Int),((0:Int),((([]:List UInt8),(([]:List (List UInt8)),(([]:List pV),(([]:List rD),())))),(([]:List Int),())))))) 2 [99,97,116,97,108,111,103]=_:=FG hsm hP;have h1':w7 (s,((0:Int),((0:Int),((0:Int),((([]:List UInt8),(([]:List (List UInt8)),(([]:List pV),(([]:List rD),())))),(([]:List Int),())))))) 2 [99,97,116,97,108,111,103]=_:=h1;unfold GX;rw[h1',aTC];by_cases h0:(decide (kR (kS s 0)=2)&&(decide (([99,97,116,97,108,111,103]:List UInt8)=[])||decide (xS s 0=[99,97,116,97,108,111,103])))=true
 ·rw[wK h0];dsimp only;rw[CF hsm hQ.2 (by decide) (by decide),aTC];by_cases hk1:kS s (nS s 0)=1
  ·rw[wK (by simpa using hk1)];dsimp only;rw[N9 _ (NP hsm hQ.2),aTD uJ];by_cases ht:tY (xS s (nS s 0))=true
   ·rw[aTG (show¬(decide ((0:Int)=0)&& !val (some (tY (xS s (nS s 0)))))=true from by rw[ht];decide)];unfold rH;rw[aTC];dsimp only;obtain⟨r,g1,g2⟩:=aIC (c:=([],([],([],([],()))))) (bad:=0) (ends:=[]) (hd:=true) (x:=[]) hsm hR.2 (by decide);have g1':xE (s,((nS s (nS s 0):Int),((0:Int),((0:Int),(([],([],([],([],())))),(([]:List Int),())))))) ([],([],([],([],([],(0,([],()))))))) true=some r:=g1;rw[g1',aTC];rcases g2 with g2|⟨P',sr,tg,cm,fg,st,fd,q1,q2,rfl,q3⟩
    ·exact⟨_,rfl,.inl g2⟩
    ·exact⟨_,rfl,.inr ⟨P',_,_,_,q2,rfl,ht,q3.cm,q3.fd⟩⟩
   ·rw[aTD (show (decide ((0:Int)=0)&& !val (some (tY (xS s (nS s 0)))))=true from by rw[show tY (xS s (nS s 0))=false from by simpa using ht];decide)];unfold rM;rw[wY];unfold rH;rw[aTC];dsimp only;obtain⟨ro,hro,g1,g2⟩:=NR (P:=nS s (nS s 0)) (c2:=([],([],([],([],()))))) (bad:=(fS s (nS s 0):Int)) (e:=3) (ends2:=[]) (hd:=true) (i:=i0 []) hsm hR.2 (by decide);have hro':xE (s,((nS s (nS s 0):Int),((fS s (nS s 0):Int),((3:Int),(([],([],([],([],())))),(([]:List Int),())))))) ([],([],([],([],([],(0,([],()))))))) true=some ro:=hro;rw[hro',aTC];exact⟨_,rfl,.inl (by show ro.2.2.1≠0;rw[g2];decide)⟩
  ·rw[zE (by simpa using hk1)];dsimp only;rw[aTD (by intro hh;simp at hh),aTG (show¬(decide ((3:Int)=0)&& !val (DW (xS s (nS s 0))))=true from by simp)];unfold rH;rw[aTC];dsimp only;obtain⟨ro,hro,g1,g2⟩:=NR (P:=nS s 0) (c2:=([],([],([],([],()))))) (bad:=(fS s (nS s 0):Int)) (e:=3) (ends2:=[]) (hd:=true) (i:=i0 []) hsm hQ.2 (by decide);have hro':xE (s,((nS s 0:Int),((fS s (nS s 0):Int),((3:Int),(([],([],([],([],())))),(([]:List Int),())))))) ([],([],([],([],([],(0,([],()))))))) true=some ro:=hro;rw[hro',aTC];exact⟨_,rfl,.inl (by show ro.2.2.1≠0;rw[g2];decide)⟩
 ·rw[zE h0];dsimp only;have h2:w7 (s,(((0:Nat):Int),((fS s 0:Int),((3:Int),((([]:List UInt8),(([]:List (List UInt8)),(([]:List pV),(([]:List rD),())))),(([]:List Int),())))))) 1 []=_:=RK hsm hP e3;rw[h2,aTC];dsimp only;rw[aTD (by intro hh;simp at hh),aTG (show¬(decide ((3:Int)=0)&& !val (DW (xS s 0)))=true from by simp)];unfold rH;rw[aTC];dsimp only;obtain⟨ro,hro,g1,g2⟩:=NR (P:=0) (c2:=([],([],([],([],()))))) (bad:=(fS s 0:Int)) (e:=3) (ends2:=[]) (hd:=true) (i:=i0 []) hsm hP (by decide);have hro':xE (s,(((0:Nat):Int),((fS s 0:Int),((3:Int),(([],([],([],([],())))),(([]:List Int),())))))) ([],([],([],([],([],(0,([],()))))))) true=some ro:=hro;rw[hro',aTC];exact⟨_,rfl,.inl (by show ro.2.2.1≠0;rw[g2];decide)⟩
omit hsm in
theorem aQP {c:C4}(h1:tY c.1=true) (h2:vR c.2.1=true) (h3:vS c.2.2.1=true) (h4:RV c.2.2.2.1):v6 c=true:=by
 unfold v6;rw[h1,h2,h3,aUM (show ((c.2.2.2.1.length:Int))<=1000 by have:=h4.len;omega)];simp only[Bool.true_and,aT8,aUp,aVm,aUG];intro i hi;unfold EG;rw[CJ hi,h4.ok _ (aUB hi)];simp only[Bool.not_true,Bool.or_false,aUp,aTK];intro y hy;rw[aVw] at hy;obtain⟨j,hj,rfl⟩:=hy;exact aU1.1 h4.pw j i (by omega) hi (by omega)
theorem aQQ: ∃v,KK s=some v/\(v.2.2.2.2.2.2=0->v6 (v.1,(v.2.1,(v.2.2.1,(v.2.2.2.1,()))))=true)/\(v.2.2.2.2.2.2≠0->v.1=[]/\v.2.1=[]/\v.2.2.1=[]/\v.2.2.2.1=[]/\v.2.2.2.2.1=[])/\(v.2.2.2.2.2.2=0->v.2.2.2.2.2.1=0/\v.2.2.2.2.1.length=v.2.2.2.1.length+1):=by
 obtain⟨r,h1,h2⟩:=aQO hsm;unfold KK;rw[h1,aTC];rcases h2 with h2|⟨P',tag,cm,fd,p1,rfl,t1,t2,t3⟩
 ·obtain⟨p,b,e,q1,q2,q3,q4⟩:=r;have h2':e≠0:=h2;have hs2:w8 s (p,b,e,q1,q2,q3,q4) (p,b,e,[],q4)=some (.inr (p,b,e,[],q4)):=by
   unfold w8;dsimp only;rw[aTD (by intro hh;simp [h2'] at hh),aTG (by simp [h2'])]
  dsimp only;rw[vU hs2];unfold rH;rw[aTC];dsimp only;rw[aTD (by simp [h2'])];exact⟨_,rfl,fun h=>absurd h h2',fun _=>⟨rfl,rfl,rfl,rfl,rfl⟩,fun h=>absurd h h2'⟩
 ·dsimp only;obtain⟨ro,g1,g2⟩:=aID (bad:=0) (rr:=((P':Int),0,0,tag,cm,fd,[(P':Int)])) hsm s.length P' [] [(P':Int)] (by omega) p1 ⟨by decide,fun x hx=>(by cases hx),List.Pairwise.nil⟩ (by simp);rw[g1];unfold rH;rw[aTC];obtain⟨p,b,e,q1,q2⟩:=ro;dsimp only;by_cases he:e=0
  ·rw[aTG (by simp [he])];exact⟨_,rfl,fun _=>aQP t1 t2 t3 (g2 he).1,fun h=>absurd rfl h,fun _=>⟨rfl,(g2 he).2⟩⟩
  ·rw[aTD (by simp [he])];exact⟨_,rfl,fun h=>absurd h he,fun _=>⟨rfl,rfl,rfl,rfl,rfl⟩,fun h=>absurd h he⟩
end
section
variable {s:List UInt8}(hsm:s.length<=4000000000)
include hsm
theorem aIE: ∃v,y5 s=some v/\N5 s=some v/\pS v.2.1/\pS v.2.2.1/\pS v.2.2.2.1/\∀y∈v.2.2.2.1,KV y:=by
 obtain⟨ph,rh,hph,hrh,hres⟩:=aPM (P:=0) (a:=0) (en:=0) (bad:=0) (c:=([],([],([],([],()))))) (c2:=([],([],([],([],()))))) (ends:=[]) (ids:=[]) hsm (aUC _) (by decide);have hnx:=aHr hsm (aUC s.length);have hnx':CC (s,((0:Int),()))=some (kS s 0,xS s 0,(fS s 0:Int),(nS s 0:Int),(nS s 0:Int)):=hnx;have hrh':GX (s,((0:Int),((0:Int),((0:Int),((([]:List UInt8),(([]:List (List UInt8)),(([]:List pV),(([]:List rD),())))),(([]:List Int),()))))))=some rh:=hrh;unfold y5 wW N5 KK;rw[hnx',aTC];dsimp only;rw[hph,aTC,hrh',aTC];rcases hres with⟨P',tag,cm,fd,g1,g2,rfl,rfl,f1,f2⟩ |hb
 ·obtain⟨po,ro,h1,h2,h3⟩:=aH5 (a:=0) (bad:=0) (hp:=((nS s P':Int),kS s P',xS s P',(fS s P':Int),(nS s P':Int),0,0,tag,cm,fd,[]++[(P':Int)],(P':Int))) (hr:=((P':Int),0,0,tag,cm,fd,[]++[(P':Int)])) hsm s.length P' [] ([]++[(P':Int)]) (P':Int) [] (by omega) g2 (by decide) (by simp) (fun _=>rfl) (fun _ h=>by cases h) (aPP P');dsimp only;rw[h1,h2];unfold rH;rw[aTC,aTC];dsimp only;rw[aTC];rcases h3 with⟨e1,e2,e3,e4,e5,e6,_,_⟩ |⟨e1,e2,e3⟩
  ·rw[aTG (by simp [e1]),aTG (by simp [e2]),aTC,e3];exact⟨_,rfl,rfl,f1,f2,(show pS po.2.2.2.2.2.2.2.1 from by unfold pS;omega),e6⟩
  ·rw[aTD (by simp [e1]),aTD (by simp [e3,e1]),aTC,e2,e3];exact⟨_,rfl,rfl,D5,D5,D5,fun _ h=>by cases h⟩
 ·obtain⟨b1,b2,b3⟩:=hb;have e3:EA s ph (ph.1,ph.2.1,ph.2.2.1,ph.2.2.2.1,ph.2.2.2.2.1,ph.2.2.2.2.2.1,ph.2.2.2.2.2.2.1,[],ph.2.2.2.2.2.2.2.2.2.2.1,ph.2.2.2.2.2.2.2.2.2.2.2,[])=some (.inr (ph.1,ph.2.1,ph.2.2.1,ph.2.2.2.1,ph.2.2.2.2.1,ph.2.2.2.2.2.1,ph.2.2.2.2.2.2.1,[],ph.2.2.2.2.2.2.2.2.2.2.1,ph.2.2.2.2.2.2.2.2.2.2.2,[])):=by
   unfold EA;dsimp only;rw[aTG (by simp [b1])]
  have e4:w8 s rh (rh.1,rh.2.1,rh.2.2.1,[],rh.2.2.2.2.2.2)=some (.inr (rh.1,rh.2.1,rh.2.2.1,[],rh.2.2.2.2.2.2)):=by
   have h3:rh.2.2.1≠0:=by rw[b3];exact b1
   unfold w8;dsimp only;rw[aTD (by intro hh;simp [h3] at hh),aTG (by simp [h3])]
  rw[vU e3,vU e4];unfold rH;rw[aTC,aTC];dsimp only;rw[aTC];dsimp only;rw[aTD (by simp [b1]),aTD (by simp [b3,b1]),aTC,b2,b3];exact⟨_,rfl,rfl,D5,D5,D5,fun _ h=>by cases h⟩
end
theorem a8Z {α:Type}{f:Int->Option (Int⊕(Unit⊕Bool))}(l:List α) (hf: ∀(i:Nat) (h:i<l.length),f i=some (.inl (i+1))) (he:f l.length=some (.inr (.inl ()))):
  qB f 0=some (.inl ()):=by
 have h:=BF (f:=f) (l:=l) (fun _=>false) (fun _=>false) (fun i h=>by rw[aTG aVL];exact hf i h) he;rw[h];have:l.findIdx? (fun _=>false)=none:=aUN.2 (fun _ _=>rfl);rw[this];rfl
theorem J1 (l:List (List UInt8)) (hl:pS l):vL l l=some true:=by
 unfold pS at hl;unfold vL;rw[aTG (by simp),a8Z l (fun i h=>by
  unfold UV;rw[aTD (sX h),aTD (rR h),aTD (rR h),aTG (by simp),aTD (sC (by omega))]) (by
  unfold UV;rw[aTG (uM _)])]
 rfl
theorem NV (l:List rF) (hl:pS l):yF l l=some true:=by
 unfold pS at hl;unfold yF;rw[aTG (by simp),a8Z l (fun i h=>by
  unfold UW;rw[aTD (sX h),aTD (rR h),aTD (rR h),aTG (by simp),aTD (sC (by omega))]) (by
  unfold UW;rw[aTG (uM _)])]
 rfl
theorem aQR (y:rD) (h:KV y):MB y y=some ():=by
 unfold MB;rw[J1 _ h.1,J1 _ h.2.1,NV _ h.2.2,aTD uJ,aTD uJ,aTD uJ]
theorem X8 (l:List rD) (hl:pS l) (h: ∀y∈l,KV y):C7 l l=some true:=by
 unfold pS at hl;unfold C7;rw[aTG (by simp),a8Z l (fun i hi=>by
  have hy:=h l[i] (aUB hi);unfold VC;rw[aTD (sX hi),aTD (rR hi),aTD (rR hi),xW (t:=rN) hi];rw[aQR _ hy,aTC,J1 _ hy.1,J1 _ hy.2.1,NV _ hy.2.2,aTG (by simp [val]),aTD (sC (by omega))]) (by
  unfold VC;rw[aTG (uM _)])]
 rfl
end Go.Proofs.YtbbpilohihldiaaGreatDoor
namespace Go.Proofs.YtbbpilohihldiaaGreatDoor
open Vc
set_option maxRecDepth 1000000
end Go.Proofs.YtbbpilohihldiaaGreatDoor
namespace Go.Proofs.YtbbpilohihldiaaGreatDoor
open Vc
theorem BQ {x:List UInt8}(h:sA x=true):x.length≤4000:=by
  unfold sA at h;simp only[aTL,aTK] at h;omega
structure a80 (x:tC):Prop where
  id:x.1.length≤4000
  src:x.2.1.length≤4000
  tgt:x.2.2.1.length≤4000
  com:x.2.2.2.1.length≤20∧∀y∈x.2.2.2.1,y.length≤4000
  flg:x.2.2.2.2.1.length≤20∧∀y∈x.2.2.2.2.1,y.length≤4000
  fld:x.2.2.2.2.2.2.1.length≤20∧∀y∈x.2.2.2.2.2.2.1,y.1.length≤4000∧y.2.1.length≤4000
theorem a81 {x:tC}(h:xH x=true):a80 x:=by
  have h':=h;unfold xH at h';simp only[aTL] at h';obtain⟨⟨⟨⟨⟨⟨⟨⟨hne,h200⟩,hid⟩,hsrc⟩,htgt⟩,hcom⟩,hflg⟩,_⟩,hfld⟩:=h';obtain⟨c1,c2⟩:=IZ hcom;obtain⟨f1,f2,f3⟩:=X6 hflg;obtain⟨g1,g2,g3⟩:=J0 hfld;exact⟨BQ hid,BQ hsrc,BQ htgt,⟨c1,fun y hy=>BQ (c2 y hy)⟩,⟨f1,fun y hy=>BQ (aIs (f2 y hy))⟩,⟨g1,fun y hy=>⟨BQ (g2 y hy).2.1,BQ (g2 y hy).2.2⟩⟩⟩
theorem a82 {l:List (List UInt8)}(h:l.length≤20∧∀y∈l,y.length≤4000):FJ l:=⟨by omega,fun y hy=>by have:=h.2 y hy;omega⟩
theorem aIF {l:List rF}(h:l.length≤20∧∀y∈l,y.1.length≤4000∧y.2.1.length≤4000):IT l:=⟨by omega,fun y hy=>by have:=h.2 y hy;omega⟩
theorem a80.few {x:tC}(h:a80 x):IU x:=⟨by have:=h.id;omega,by have:=h.src;omega,by have:=h.tgt;omega,a82 h.com,a82 h.flg,aIF h.fld⟩
theorem aQS {c:C4}(h:v6 c=true):H5 c:=by
  obtain⟨h1,h2,h3,h4,h5,_⟩:=RT h;obtain⟨c1,c2⟩:=IZ h2;obtain⟨g1,g2,g3⟩:=J0 h3;refine⟨?_,a82 ⟨c1,fun y hy=>BQ (c2 y hy)⟩,aIF ⟨g1,fun y hy=>⟨BQ (g2 y hy).2.1,BQ (g2 y hy).2.2⟩⟩,h4,fun x hx=>(a81 (h5 x hx)).few⟩;unfold tY at h1;simp only[aTL,aTK] at h1;omega
theorem NW {s:List UInt8}(h:s.length≤4000):(q3 s).length≤24002:=by
  have:=aHV (n:=3) (.inr rfl) s;unfold q3;simp only[aTH,aUl];omega
theorem aIG {l:List (List UInt8)}(h:l.length≤20∧∀y∈l,y.length≤4000):(AY l).length≤480260:=by
  have:=IW (l:=l) (h:=D6) (B:=24013) fun x hx=>by
    have:=NW (h.2 x hx);unfold D6;simp only[aTH,aTJ,aT0];omega
  unfold AY;omega
theorem aIH {l:List rF}(h:l.length≤20∧∀y∈l,y.1.length≤4000∧y.2.1.length≤4000):(y9 l).length≤960280:=by
  have:=IW (l:=l) (h:=CI) (B:=48014) fun x hx=>by
    have h1:=NW (h.2 x hx).1;have h2:=NW (h.2 x hx).2;unfold CI;simp only[aTH,aTJ,aT0];omega
  unfold y9;omega
theorem aQT {l:List (List UInt8)}(h:l.length≤20∧∀y∈l,y.length≤4000):(xN l).length≤80160:=by
  have:=IW (l:=l) (h:=BO) (B:=4008) fun x hx=>by
    have:=h.2 x hx;unfold BO;simp only[aTH,aTJ,aT0];omega
  unfold xN;omega
theorem aII {p s:List UInt8}(hp:p.length≤10) (h:s.length≤4000):(xO p s).length≤24012:=by
  have:=NW h;unfold xO;split
  ·simp
  ·rw[aTH];omega
theorem aQU {x:tC}(h:xH x=true):(vD x).length≤1600000:=by
  have hs:=a81 h;obtain⟨r0,r4⟩:=X2 h;have a1:=NW hs.id;have a2:=aIG hs.com;have a3:=aII (p:=KZ) (by decide) hs.src;have a4:=aII (p:=L1) (by decide) hs.tgt;have a5:=aIf r0 r4;have a6:=aQT hs.flg;have a7:=aIH hs.fld;unfold vD L2 EI EH H6;simp only[aTH,aTJ,aT0];omega
theorem aQV {c:C4}(h:v6 c=true):(AE c).length≤1500000:=by
  obtain⟨h1,h2,h3,_⟩:=RT h;obtain⟨c1,c2⟩:=IZ h2;obtain⟨g1,g2,g3⟩:=J0 h3;have a1:=NW (BQ (aIt h1));have a2:=aIG ⟨c1,fun y hy=>BQ (c2 y hy)⟩;have a3:=aIH ⟨g1,fun y hy=>⟨BQ (g2 y hy).2.1,BQ (g2 y hy).2.2⟩⟩;unfold AE;simp only[aTH,aTJ,aT0];omega
theorem aIJ {c:C4}(h:v6 c=true):(BP c).length≤4000000000:=by
  obtain⟨_,_,_,h4,h5,_⟩:=RT h;have a1:=aQV h;have a2:=IW (l:=c.2.2.2.1) (h:=vD) (B:=1600000) fun x hx=>aQU (h5 x hx);have e:(c.2.2.2.1.map vD).flatten=c.2.2.2.1.flatMap vD:=by rw[List.flatMap_def]
  unfold BP IX;rw[e];simp only[aTH,aTJ,aT0];omega
theorem aIK {c:C4}(h:v6 c=true):y5 (BP c)=some (c.1,c.2.1,c.2.2.1,c.2.2.2.1,0,0):=by
  obtain⟨v,h1,h2,_⟩:=aIE (aIJ h);rw[aQv h (aIJ h)] at h2;rw[h1,←h2]
theorem aIL {c:C4}(h:v6 c=true):C9 c c=some ()∧((((decide (c.1=c.1))&&(val (vL c.2.1 c.2.1)))&&(val (yF c.2.2.1 c.2.2.1)))&&(val (C7 c.2.2.2.1 c.2.2.2.1)))=true:=by
  obtain⟨h1,h2,h3,h4,h5,_⟩:=RT h;have f2:pS c.2.1:=by have:=(IZ h2).1;unfold pS;omega
  have f3:pS c.2.2.1:=by have:=(J0 h3).1;unfold pS;omega
  have f4:pS c.2.2.2.1:=by unfold pS;omega
  have f5: ∀y∈c.2.2.2.1,KV y:=fun y hy=>by
    have hs:=a81 (h5 y hy);exact⟨by have:=hs.com.1;unfold pS;omega,by have:=hs.flg.1;unfold pS;omega,by have:=hs.fld.1;unfold pS;omega⟩
  constructor
  · unfold C9 MQ
    rw[J1 _ f2,NV _ f3,X8 _ f4 f5];rw[aTD uJ,aTD uJ,aTC,aTD uJ]
  · rw[J1 _ f2,NV _ f3,X8 _ f4 f5]
    simp [val]
theorem aQW {s:List UInt8}(hsm:s.length≤4000000000): ∃v,y5 s=some v∧(v.2.2.2.2.2=0→v6 (v.1,(v.2.1,(v.2.2.1,(v.2.2.2.1,()))))=true)∧(v.2.2.2.2.2≠0→v.1=[]∧v.2.1=[]∧v.2.2.1=[]∧v.2.2.2.1=[]):=by
  obtain⟨v,h1,h2,_⟩:=aIE hsm;obtain⟨w,g1,g2,g3,_⟩:=aQQ hsm;unfold N5 at h2;rw[g1,aTC] at h2;cases h2;exact⟨_,h1,g2,fun h=>⟨(g3 h).1,(g3 h).2.1,(g3 h).2.2.1,(g3 h).2.2.2.1⟩⟩
theorem aQX:C9 (([]:List UInt8),(([]:List (List UInt8)),(([]:List pV),(([]:List rD),())))) (([]:List UInt8),(([]:List (List UInt8)),(([]:List pV),(([]:List rD),()))))=some ():=by
  unfold C9 MQ;dsimp only;rw[J1 _ D5,NV _ D5,X8 _ D5 (fun _ h=>by cases h)];rw[aTD uJ,aTD uJ,aTC,aTD uJ]
theorem aQY {c:C4}(hc:WZ c) (s:List UInt8):KL c s=some true:=by
  unfold KL;rw[aPS,aTC,aTG (by decide)];obtain⟨b,hb,hf⟩:=aPx hc;rw[hb,aTC];by_cases h:((!b)||(decide ((4000:Int)<(s.length:Int))))=true
  ·rw[aTD h]
  · rw[aTG h]
    simp only[aUt,aT8,aTK,not_or,Bool.not_eq_false] at h;have hw:=hf h.1;have hsm:s.length≤4000000000:=by have:=h.2;omega
    rw[aHM hw.fitP,aTC];obtain⟨v,p1,p2,p3⟩:=aQW hsm
    have step1:(if v6 c=true then
      (E8 c).bind fun O=>
      (y5 O.1).bind fun Z=>
      if ((((!decide (O.2=(0:Int)))||(!decide (Z.2.2.2.2.2=(0:Int))))==false)=true→((C9 (Z.1,(Z.2.1,(Z.2.2.1,(Z.2.2.2.1,())))) c)).isSome=true) then
       if (((!decide (O.2=(0:Int)))||(!decide (Z.2.2.2.2.2=(0:Int))))||(!((((decide (Z.1=c.1))&&(val (vL Z.2.1 c.2.1)))&&(val (yF Z.2.2.1 c.2.2.1)))&&(val (C7 Z.2.2.2.1 c.2.2.2.1)))))=true then
        some (.inr (false))
       else
        some (.inl ())
      else none
     else
      some (.inl ()):Option (Unit⊕Bool))=some (.inl ()):=by
      by_cases hok:v6 c=true
      · rw[aTD hok,a8V hw,aTD hok,aTC,aIK hok,aTC]
        dsimp only;obtain⟨q1,q2⟩:=aIL hok;rw[q2,aTD (fun _=>by rw[show C9 (c.1,(c.2.1,(c.2.2.1,(c.2.2.2.1,())))) c=C9 c c from rfl,q1];rfl),aTG (by simp)]
      ·rw[aTG hok]
    rw[step1];show (y5 s).bind _=some true;rw[p1,aTC];by_cases he:v.2.2.2.2.2=0
    · rw[aTG (by simp [he])]
      have hok:=p2 he;have hw2:=aQS hok;rw[a8V hw2,aTD hok,aTC];dsimp only;rw[aIK hok,aTC];dsimp only;rw[a8V hw2,aTD hok,aTC];dsimp only;obtain⟨q1,q2⟩:=aIL hok;dsimp only at q1 q2;rw[aHM hw2.fitP,hok,aTD uJ,q1,aTD uJ,q2];simp [val]
    · rw[aTD (by simp [he])]
      obtain⟨e1,e2,e3,e4⟩:=p3 he;rw[e1,e2,e3,e4,aQX,aTC,J1 _ D5,NV _ D5,X8 _ D5 (fun _ h=>by cases h)];rfl
end Go.Proofs.YtbbpilohihldiaaGreatDoor
namespace Go.Proofs.YtbbpilohihldiaaGreatDoor
open Go.ChangeShapes Go.WideShapes Go.ChangeAt Go.RowKit
section
variable {H:Type}{enc:TypeId×Value->H}{P:Program}
theorem aQZ (hl:laidOutB P=true) {W W':World}(hb:Below W.heap.size W W'):
  ∀{ts:List TypeId}{vs:List Value}{ds:List (DataW H)}{ps:List MemPlace},(∀t∈ts,P.readableRec t=true/\t<P.types.size)->
  DataW.TrodAll enc P W 0 (fun _=>true) true ts vs ds ps->(∀x∈ps,x.block<W.heap.size)->
  DataW.TrodAll enc P W' 0 (fun b=>decide (b<W.heap.size)) true ts vs ds ps:=by
 intro ts
 induction ts with
 |nil=>
  intro vs ds ps _ h _;obtain⟨rfl,rfl,rfl⟩:=trodAll_nil h;exact trodAll_mk0
 |cons t ts ih=>
  intro vs ds ps hr h hlt;obtain⟨v,vs',d,ds',p,q,rfl,rfl,rfl,h0,r0⟩:=trodAll_cons h;exact trodAll_cons_mk (Below.trod hl (hr t (by simp)).1 (hr t (by simp)).2 h0 hb (fun x hx=>hlt x (by simp [hx]))) (ih (fun t' ht'=>hr t' (by simp [ht'])) r0 (fun x hx=>hlt x (by simp [hx])))
theorem aQ0 {f:Func}{s:ChangeSpec}{W W':World}{args:Array Value}{ds gs:List (DataW H)}{before:List MemPlace}{tb:TypeId}
  (hl:laidOutB P=true) (hr: ∀t∈f.params.toList,P.readableRec t=true/\t<P.types.size)
  (hW:DataW.Whole enc P f.params.toList s.vars false W args.toList ds gs before) (hv:s.vars=[])
  (hfn:s.fn H ds={results:=[.lit (.bool true)],args:=ds}) (hrt:f.resultTypes= #[tb]) (htb:P.underlying tb=some .bool)
  (hb:Below W.heap.size W W'):s.post enc P f false true false false W args (.bool true) W':=by
 have hW':=hW;obtain⟨p,q,hA,hV,rfl,hfz,hnd⟩:=hW;rw[hv] at hV;obtain⟨rfl,rfl⟩:=trodVars_none hV;have hlt: ∀x∈p,x.block<W.heap.size:=fun x hx=>by simpa using hW'.lt x (by simp [hx])
 refine⟨ds,[],p++[],[],p,[],hW',?_,?_,?_,hb.frame _,fun h=>by cases h⟩
 ·rw[List.append_nil,hfn,hrt];exact trodAll_mk1 (shut_bool htb true)
 ·rw[List.append_nil,hfn];exact aQZ hl hb hr hA hlt
 ·rw[hv,List.append_nil,hfn];rfl
end
section
variable {H:Type}{enc:TypeId×Value->H}
theorem aQ1 {C:Checked}{f:FuncId}{fn:Func}{s:ChangeSpec}{tb:TypeId}{FM:List (String×DataW Unit)}(own:ownKnob C.prog.godebug=none) {os:Os}(started:os.Started) (F:Stop.Interp)
  (noInit:C.prog.inits.idxOf? f=none) (hfn:C.prog.funcs[f]? =some fn)
  (hl:laidOutB C.prog=true) (hr: ∀t∈fn.params.toList,C.prog.readableRec t=true/\t<C.prog.types.size) (hv:s.vars=[])
  (hrt:fn.resultTypes= #[tb]) (htb:C.prog.underlying tb=some .bool)
  (hspec: ∀(ds:List (DataW H)) (W:World) (args:Array Value) ps,DataW.TrodAll enc C.prog W 0 (fun _=>true) true fn.params.toList args.toList ds ps->s.fn H ds={results:=[.lit (.bool true)],args:=ds})
  (witness: ∃(w:World) (tape:Tape) (i:Input),w.os=os/\(w.forCall tape i).Shaped C.prog/\i.vars=[]/\Input.okWide C.prog (w.forCall tape i) .any w.heap.size f i/\
   (OpenSpec.ofChange s).preRow enc C.prog fn [] false FM (w.forCall tape i).memory i.args/\Assume.holds {} C.prog (lone (Frame.enter C.prog f i.args .normal) [] (w.forCall tape i)))
  (contract: ∀(W:World) (base:Nat) (args:Array Value) (ds:List (DataW H)) (ps:List MemPlace),
   (∀(j:Nat) t v,fn.params[j]? =some t->args[j]? =some v->Value.okWide C.prog W .any base t v)->
   DataW.TrodAll enc C.prog W 0 (fun _=>true) true fn.params.toList args.toList ds ps->
   (∀x∈ps,x.block<W.heap.size)->(DataW.weightsEach C.prog fn.params.toList ds).all (·<=reachBytes)=true->laidMetH C.prog FM W->W.ShapedOpen C.prog->
   Calls C.prog f args W fun e W'=>e= .returned (.bool true)/\Below W.heap.size W W'):
  ReturnsInHanded {} C os f .any ((OpenSpec.ofChange s).preRow enc C.prog fn [] false FM) (s.post enc C.prog fn false true false false):=by
 refine returnsInHanded_of_row (C:=C) (s:=OpenSpec.ofChange s) (F:=F) own started noInit hfn witness ?_;intro W base args ds gs before hval hW _ _ hsz hL hsh _;have hW':=hW;obtain⟨p,q,hA,hV,rfl,hfz,hnd⟩:=hW;have hV':DataW.TrodVars enc C.prog W (fun _=>true) s.vars gs q:=hV;rw[hv] at hV';obtain⟨rfl,rfl⟩:=trodVars_none hV';have hlt: ∀x∈p,x.block<W.heap.size:=fun x hx=>by simpa using hW'.lt x (by simp [hx])
 have hvt:(OpenSpec.ofChange s).bare.plain.varTypes C.prog=[]:=by
  simp [OpenSpec.ofChange,ChangeSpec.plain,hv];rfl
 rw[hvt,List.append_nil,List.append_nil] at hsz;refine(contract W base args ds p hval hA hlt hsz hL hsh).mono fun e W' ⟨he,hb⟩=> ?_;subst he;exact⟨_,rfl,aQ0 hl hr hW' hv (hspec ds W args p hA) hrt htb hb⟩
end
end Go.Proofs.YtbbpilohihldiaaGreatDoor
namespace Go.Proofs.YtbbpilohihldiaaGreatDoor
open Go.Shelf Go.Lib
open Vc
theorem aQ2:(Rows.laid_unicode_utf8_first:DataW Unit)=Lib.firstData:=by kernel_rfl
theorem aQ3:(Rows.laid_unicode_utf8_acceptRanges:DataW Unit)=Lib.acceptData:=by kernel_rfl
def aIM:List Int:=[0,1,56,2,57,49,28,3,61,58,42,50,38,29,17,4,62,47,59,36,45,43,51,22,53,39,33,30,24,18,12,5,63,55,48,27,60,41,37,16,46,35,44,21,52,32,23,11,54,26,40,15,34,20,31,10,25,14,19,9,13,8,7,6]
theorem aQ4:(Rows.laid_math_bits_deBruijn64tab:DataW Unit)=Lib.tabData .u8 aIM:=by kernel_rfl
theorem aQ5 {P:Program}{w:World}{g:Nat}{t:TypeId}{k:IntKind}{zero:Array Value}(h:w.ShapedOpen P) (hg:g<P.globals.size)
  (h0:((begin P (fun _ _=>0) default).world.heap[g]?).bind Obj.row? =some (zero,t)) (hz:zero.size=1)
  (hb:P.buildable t=true) (hc:P.cellTypes P.depth t=some [t]) (hu:P.underlying t=some (.int k)): ∃m,w.cell? ⟨g,0,none⟩=some (.int k m):=by
 obtain⟨cs,hh,hs,hr⟩:=h.1 g zero t hg h0;obtain⟨ts,hts,_,hall⟩:=hr hb;rw[hc] at hts;cases hts;have h1:0<cs.size:=by omega
 obtain⟨u,hu',hok⟩:=hall 0 cs[0] (by simp [h1]);have:u=t:=by simpa using hu'.symm
 subst this;have hcell:w.cell? ⟨g,0,none⟩=some cs[0]:=by simp [World.cell?,hh,h1]
 rw[hcell];unfold Cell.ok at hok;rw[hu] at hok;cases hv:cs[0]<;>rw[hv] at hok<;>simp at hok
 rename_i k' m;exact⟨m,by rw[hok.1]⟩
theorem aQ6 {W:World}(hsh:W.ShapedOpen Tryz.prog): ∃m,W.cell? ⟨0,0,none⟩=some (.int .i64 m):=
 aQ5 (t:=3) (zero:= #[.int .i64 0]) hsh (aUm (by kernel_rfl)) (by kernel_rfl) rfl (by kernel_rfl) (by kernel_rfl) Tryz.underlying3
def aQ7:Ren:=⟨fun x=>x,fun x=>if x=5 then 5 else if x=119 then 254 else if x=138 then 256 else 257,fun x=>if x=3 then 1 else 2⟩
theorem aQ8 {w:World}{a:Addr}{v:Value}(h:w.cell? a=some v):a.block<w.heap.size:=by
 unfold World.cell? at h;split at h
 ·rename_i hb;exact(aT3.1 hb).1
 ·cases h
theorem aQ9 {W:World}(hL:laidMet Tryz.prog Rows.treePrintRow.laid W) (hsh:W.ShapedOpen Tryz.prog):J3 W:=by
 obtain⟨m,hm⟩:=aQ6 hsh;have h0:=laidMet.reads hL (.tail _ (.head _));have h1:=laidMet.reads hL (.tail _ (.tail _ (.tail _ (.head _))));have h2:=laidMet.reads hL (.tail _ (.tail _ (.tail _ (.tail _ (.head _)))));rw[aQ4] at h0;rw[aQ2] at h2;rw[aQ3] at h1;have hU:Lib.Utf8Tabs 1 2 W:=utf8Tabs_of_readsT (ρ:=aQ7) ⟨by kernel_rfl,by kernel_rfl,by kernel_rfl,by kernel_rfl⟩ ⟨by kernel_rfl,by kernel_rfl,by kernel_rfl,by kernel_rfl,by kernel_rfl,by kernel_rfl,by kernel_rfl⟩ h2 h1;have hT:W.cell? ⟨5,15,none⟩=some (.int .u8 4):=by
  obtain⟨g,t,cs,fuel,p,hg,ht,hv,hd⟩:=h0;have hg0:Tryz.prog.globalNamed "math/bits.deBruijn64tab" =some 5:=by kernel_rfl
  have ht0:(Tryz.prog.globals[5]?).map (·.type)=some 289:=by kernel_rfl
  obtain rfl:=aTI (hg0.symm.trans hg);obtain rfl:=aTI (ht0.symm.trans ht);have hc:=cells_of_tab Tryz.underlying289 Tryz.underlying5 (by kernel_rfl) (by kernel_rfl) hd;rw[World.var?_cell hg hv 15,<-aUK,hc];rfl
 refine⟨?_,hU,⟨m,hm⟩,fun x hx=> ?_⟩
 ·have b0:5<W.heap.size:=aQ8 hT;show 6<=W.heap.size;omega
 ·unfold a86 at hx;obtain rfl:=aTQ.1 hx;exact⟨by decide,hT⟩
noncomputable def X9 (os:Os):World:=
 let w0:=World.holding Tryz.prog os ⟨#[],#[],[]⟩
 let sU (h:Array Obj) (g:Nat) (cs:Array Value):Array Obj:=h.modify g fun
  | .cells _ t frozen=> .cells cs t frozen
  |o=>o
 let h1:=sU w0.heap 1 (Lib.firstTab.map fun z=>Value.int .u8 z).toArray
 let h2:=sU h1 2 ((List.range 16).flatMap fun i=>[Value.int .u8 (Lib.accLo i),Value.int .u8 (Lib.accHi i)]).toArray
 let h3:=sU h2 5 (aIM.map fun z=>Value.int .u8 z).toArray
 let h4:=sU h3 4 (([0,1,28,2,29,14,24,3,30,22,20,15,25,17,4,8,31,27,13,23,21,19,16,7,26,12,18,6,11,5,10,9]:List Int).map fun z=>Value.int .u8 z).toArray
 let h5:=sU h4 3 ((List.range 20).map fun i=>Value.int .u64 (10^i)).toArray
 {w0 with heap:=h5}
theorem aRa (os:Os) (args:Array Value):laidMet Tryz.prog Rows.treePrintRow.laid ((X9 os).forCall (fun _ _=>0) ⟨#[],args,[]⟩).memory:=
 (LaidIn.of_run [4,5,3,2,1] 8 (by kernel_rfl) (by kernel_rfl) (by kernel_rfl) (by kernel_rfl):LaidIn Tryz.prog _ Rows.treePrintRow.laid _).met
end Go.Proofs.YtbbpilohihldiaaGreatDoor
namespace Go.Proofs.YtbbpilohihldiaaGreatDoor
open Vc Go.RowKit
inductive a83 where
 |ty (t:TypeId) |fs (o:Nat) (l:List Field)
inductive xP (P:Program):a83->Ty->Prop
 |bool {t}:P.underlying t=some .bool->xP P (.ty t) .bool
 |int {t k}:P.underlying t=some (.int k)->xP P (.ty t) (.int k)
 |str {t}:P.underlying t=some .string->xP P (.ty t) .str
 |list {t e u}:P.underlying t=some (.slice e)->P.cellsOf e=u.cells->0<u.cells->0<P.bytesOf e->xP P (.ty e) u->xP P (.ty t) (.list u)
 |struct {t fs ty}:ty.isRow=true->P.underlying t=some (.struct fs)->P.cellsOf t=ty.cells->xP P (.fs 0 fs.toList) ty->xP P (.ty t) ty
 |nil {o}:xP P (.fs o []) .unit
 |cons {o}{f:Field}{r a b}:f.offset=o->P.cellsOf f.type=a.cells->xP P (.ty f.type) a->xP P (.fs (o+a.cells) r) b->xP P (.fs o (f::r)) (.pair a b)
def Bd:(t:Ty)->t.den->Prop
 | .str,s=>List.length s<=140737488351232
 | .int k,n=>(Lit.int k n).wf=true
 | .list u,l=>List.length l<=140737488351232/\∀x:u.den,x∈(l:List u.den)->Bd u x
 | .pair a b,x=>Bd a x.1/\Bd b x.2
 |_,_=>True
def H8 (w:World):Gh:=⟨fun b _=>b<w.heap.size,fun _=>none,fun _ _=>none⟩
theorem aIN {α:Type}{R:α->List Value->Prop}{w:World}{S:Nat->Nat->Prop}{c b:Nat}: ∀{l:List α}{o:Nat},(∀i x,l[i]? =some x->∃cs,cs.length=c/\w.rangeAt b (o+i*c) cs/\(∀j,j<c->S b (o+i*c+j))/\R x cs)->xR R w S c b o l
 |[],_,_=>trivial
 |x::l,o,h=>by
  refine⟨?_,aIN fun i y hy=> ?_⟩
  ·obtain⟨cs,h1,h2,h3,h4⟩:=h 0 x rfl;exact⟨cs,h1,by simpa using h2,by simpa using h3,h4⟩
  ·obtain⟨cs,h1,h2,h3,h4⟩:=h (i+1) y (by simpa using hy);have e:o+(i+1)*c=o+c+i*c:=by rw[aUJ];omega
   exact⟨cs,h1,by rw[<-e];exact h2,by rw[<-e];exact h3,h4⟩
section
variable {H:Type}{enc:TypeId×Value->H}{P:Program}{W:World}
theorem aIO {e:TypeId}: ∀{l:List (DataW H)}{i:Nat}{d:DataW H},l[i]? =some d->∀n∈d.weights P e,n∈DataW.weightsAll P e l
 |d0::l,0,d,h,n,hn=>by
  simp only[aUb,aTE] at h;subst h;simp only[DataW.weightsAll,aUz];exact .inl hn
 |d0::l,i+1,d,h,n,hn=>by
  simp only[aUo] at h;simp only[DataW.weightsAll,aUz];exact .inr (aIO h n hn)
 |[],_,_,h,_,_=>by simp at h
def aRb (enc:TypeId×Value->H) (P:Program) (W:World):a83->Ty->Prop
 | .ty t,u=> ∀(fuel:Nat) (cs:List Value) (y:DataW H×List MemPlace),DataW.trod enc P W 0 (fun _=>true) true fuel t cs=some y->(∀n∈y.1.weights P t,n<=reachBytes)->∃x:u.den,Rd (H8 W) W u x cs/\Bd u x
 | .fs o l,u=> ∀(fuel:Nat) (cs:List Value) (xs:List (DataW H×List MemPlace)),cs.length=o+u.cells->xs.length=l.length->(∀(i:Nat) (f:Field),l[i]? =some f->DataW.trod enc P W 0 (fun _=>true) true fuel f.type ((cs.drop f.offset).take (P.cellsOf f.type))=xs[i]?)->(∀n∈DataW.weightsEach P (l.map (·.type)) (xs.map (·.1)),n<=reachBytes)->∃x:u.den,Rd (H8 W) W u x (cs.drop o)/\Bd u x
theorem aRc {e:TypeId}{u:Ty}{a:Addr}{len cap:Nat}(hc:P.cellsOf e=u.cells) (hpos:0<u.cells) (hcap:len<=cap)
  (each: ∀i,i<len->∃(cs:List Value) (x:u.den),W.cells? 0 (a.add (i*u.cells)) u.cells=some cs/\Rd (H8 W) W u x cs/\Bd u x):
  ∃l:List u.den,l.length=len/\Rd (H8 W) W (.list u) l [.slice (some a) len cap]/\∀x∈l,Bd u x:=by
 have build: ∀k,k<=len->∃l:List u.den,l.length=k/\∀i x,l[i]? =some x->∃cs:List Value,W.cells? 0 (a.add (i*u.cells)) u.cells=some cs/\Rd (H8 W) W u x cs/\Bd u x:=by
  intro k
  induction k with
  |zero=>intro _;exact⟨[],rfl,fun i x h=>by simp at h⟩
  |succ k ih=>
   intro hk;obtain⟨l,h1,h2⟩:=ih (by omega);obtain⟨cs,x,h3,h4⟩:=each k (by omega);refine⟨l++[x],by simp [h1],fun i y hy=> ?_⟩;rw[List.getElem?_append] at hy;split at hy
   ·exact h2 i y hy
   ·rename_i hi;obtain⟨j,hj⟩: ∃j,i=l.length+j:=⟨i-l.length,by omega⟩;subst hj;rw[aUw] at hy;cases j with
    |zero=>
     simp only[aUb,aTE] at hy;subst hy;exact⟨cs,by rw[aVd,h1];exact h3,h4⟩
    |succ j=>simp at hy
 obtain⟨l,hll,hle⟩:=build len (aTZ _);refine⟨l,hll,?_,fun x hx=> ?_⟩
 ·subst hll;by_cases hl0:l=[]
  ·subst hl0;exact⟨some a,cap,rfl,hcap,.inl rfl⟩
  ·obtain⟨b,off,spot⟩:=a;have hlp:0<l.length:=aVC.2 hl0;have hspot:spot=none:=by
    obtain⟨cs,x,h3,_⟩:=each 0 hlp;have h4:=(World.cells?_some h3).2.2 0 hpos;have hlen0:=(World.cells?_some h3).2.1;rw[aTM (by omega)] at h4;simpa[Addr.add] using World.cell?_spot h4
   subst hspot;refine⟨_,cap,rfl,hcap,.inr ⟨b,off,rfl,aIN fun i x hx=> ?_⟩⟩;obtain⟨cs,h3,h4,_⟩:=hle i x hx;obtain⟨_,h5,h6⟩:=World.cells?_some h3;have hcell: ∀j v,cs[j]? =some v->W.cell? ⟨b,off+i*u.cells+j,none⟩=some v:=by
    intro j v hv;have hj:j<u.cells:=by have:=(aTU.1 hv).1;omega
    have:=h6 j hj;rw[hv] at this;rw[aVt,aVt] at this;exact this
   refine⟨cs,h5,hcell,fun j hj=> ?_,h4⟩;exact Vc.TD (hcell 0 _ (aTM (by omega)))
 ·obtain⟨i,hi,he⟩:=aVe hx;obtain⟨cs,h3,h4,h5⟩:=hle i x (by rw[aTM hi,he]);exact h5
theorem aRd {ix:a83}{u:Ty}(h:xP P ix u):aRb enc P W ix u:=by
 induction h with
 |bool ht=>
  intro fuel cs y hy _;obtain⟨b,rfl,_⟩:=DataW.trod_bool ht hy;exact⟨b,rfl,trivial⟩
 |int ht=>
  intro fuel cs y hy _;obtain⟨n,rfl,_,hw⟩:=DataW.trod_int ht hy;exact⟨n,rfl,hw⟩
 |str ht=>
  intro fuel cs y hy hw;obtain⟨s,rfl,rfl,_⟩:=DataW.trod_string ht hy;refine⟨s.data.toList,by show [Value.string s]=[Value.string ⟨s.data.toList.toArray⟩];rw[aVa],?_⟩;exact hw _ (by simp [DataW.weights])
 | @list t e u ht hc hpos hb _ ih=>
  intro fuel cs y hy hw;rcases DataW.trod_slice ht hy with⟨rfl,_⟩ |⟨a,len,cap,elems,rest,n,_,rfl,rfl,_,hl,_,hlen,hall,_,_⟩
  ·exact⟨[],⟨none,0,rfl,aTZ _,.inl rfl⟩,by simp,fun x hx=>by cases hx⟩
  ·have hws:DataW.weights P t (.slice (elems.map (·.1)) (rest.map (·.1)))=((elems.map (·.1)).length+(rest.map (·.1)).length)*P.bytesOf e::(DataW.weightsAll P e (elems.map (·.1))++DataW.weightsAll P e (rest.map (·.1))):=by
    simp [DataW.weights,ht]
   rw[hws] at hw;have hn:=hw _ aT1;obtain⟨l,h1,h2,h3⟩:=aRc (W:=W) (a:=a) (cap:=cap) hc hpos hl fun i hi=>by
    have h1:=hall i hi;rw[hc,aTM (by omega),Option.bind_eq_some_iff] at h1;obtain⟨cs,h2,h3⟩:=h1;obtain⟨x,hx⟩:=ih n cs _ h3 fun m hm=>hw m (by
     refine aTS _ (aUz.2 (.inl (aIO (i:=i) ?_ m hm)));rw[List.getElem?_map,aTM (by omega)];rfl)
    exact⟨cs,x,h2,hx⟩
   refine⟨l,h2,?_,h3⟩;have:elems.length<=(elems.length+rest.length)*P.bytesOf e:=by
    calc elems.length<=(elems.length+rest.length)*1:=by omega
     _<=_:=Nat.mul_le_mul_left _ hb
   simp only[aVJ] at hn;have hr:reachBytes=140737488351232:=rfl;show l.length<=_;omega
 |struct hrow ht hcl _ ih=>
  intro fuel cs y hy hw;obtain⟨xs,n,rfl,rfl,hl,hlen,hf⟩:=DataW.trod_struct ht hy;have:=ih n cs xs (by rw[hl,hcl];omega) (by rw[hlen];simp) (fun i f hi=>hf i f (by simpa using hi)) fun m hm=>hw m (by simpa[DataW.weights,ht] using hm);rwa [aUO] at this
 |nil=>
  intro fuel cs xs hl _ _ _;refine⟨(),?_,trivial⟩;show cs.drop _=[];exact List.drop_of_length_le (by simp [Ty.cells] at hl;omega)
 | @cons o f r a b ho hc _ _ iha ihb=>
  intro fuel cs xs hl hx hf hw;cases xs with
  |nil=>simp at hx
  |cons x0 xs=>
   have h0:=hf 0 f rfl;rw[hc,ho] at h0;obtain⟨xa,ra,ba⟩:=iha fuel _ x0 h0 fun m hm=>hw m (by simp only[aUS,DataW.weightsEach,aUz];exact .inl hm);obtain⟨xb,rb,bb⟩:=ihb fuel cs xs (by simp only[Ty.cells] at hl;omega) (by simpa using hx) (fun i f' hi=>by have:=hf (i+1) f' (by simpa using hi);simpa using this) fun m hm=>hw m (by simp only[aUS,DataW.weightsEach,aUz];exact .inr hm);refine⟨(xa,xb),⟨_,_,(aU3 a.cells (cs.drop o)).symm,ra,?_⟩,ba,bb⟩;rw[aUs];exact rb
theorem aIP {t:TypeId}{u:Ty}{base:Nat}{v:Value}{d:DataW H}{ps:List MemPlace}(h:xP P (.ty t) u) (hok:Value.okWide P W .any base t v) (hT:DataW.Trod enc P W 0 (fun _=>true) true t v d ps) (hw: ∀n∈d.weights P t,n<=reachBytes): ∃x:u.den,sE (H8 W) W u x v/\Bd u x:=by
 obtain⟨fuel,hf⟩:=hT;obtain⟨x,hx,hb⟩:=aRd (enc:=enc) (W:=W) h fuel _ _ hf hw;refine⟨x,?_,hb⟩;cases h with
 |bool ht=>obtain⟨b,rfl⟩:=Go.WideShapes.okWide_bool ht hok;exact .inr ⟨rfl,hx⟩
 |int ht=>obtain⟨b,rfl⟩:=Go.WideShapes.okWide_int ht hok;exact .inr ⟨rfl,hx⟩
 |str ht=>obtain⟨b,rfl⟩:=Go.WideShapes.okWide_string ht hok;exact .inr ⟨rfl,hx⟩
 |list ht=>obtain⟨a,l,c,rfl⟩:=Go.WideShapes.okWide_slice ht hok;exact .inr ⟨rfl,hx⟩
 |struct hrow ht=>obtain⟨cs,rfl,_⟩:=Go.WideShapes.okWide_struct ht hok;exact .inl ⟨hrow,cs.toList,by rw[aVa],hx⟩
end
end Go.Proofs.YtbbpilohihldiaaGreatDoor
namespace Go.Proofs.YtbbpilohihldiaaGreatDoor
open Vc
open Go.ChangeShapes Go.WideShapes Go.ChangeAt Go.RowKit
theorem J2:xP Tryz.prog (.ty 9) .str:= .str Tryz.underlying9
theorem a84:xP Tryz.prog (.ty 23) (.list .str):= .list Tryz.underlying23 (by kernel_rfl) (by decide) (aUm (by kernel_rfl)) J2
theorem aRe:xP Tryz.prog (.ty 149) (.pair .str (.pair .str .unit)):=by
 refine .struct rfl Tryz.underlying149 (by kernel_rfl) ?_;exact .cons rfl (by kernel_rfl) J2 (.cons rfl (by kernel_rfl) J2 .nil)
theorem aIQ:xP Tryz.prog (.ty 24) (.list (.pair .str (.pair .str .unit))):= .list Tryz.underlying24 (by kernel_rfl) (by decide) (aUm (by kernel_rfl)) aRe
theorem aRf:xP Tryz.prog (.ty 55) rN:=by
 refine .struct rfl Tryz.underlying55 (by kernel_rfl) ?_;exact .cons rfl (by kernel_rfl) J2 (.cons rfl (by kernel_rfl) J2 (.cons rfl (by kernel_rfl) J2 (.cons rfl (by kernel_rfl) a84 (.cons rfl (by kernel_rfl) a84 (.cons rfl (by kernel_rfl) (.int Tryz.underlying3) (.cons rfl (by kernel_rfl) aIQ .nil))))))
theorem aRg:xP Tryz.prog (.ty 25) (.list rN):= .list Tryz.underlying25 (by kernel_rfl) (by decide) (aUm (by kernel_rfl)) aRf
theorem aRh:xP Tryz.prog (.ty 27) wH:=by
 refine .struct rfl Tryz.underlying27 (by kernel_rfl) ?_;exact .cons rfl (by kernel_rfl) J2 (.cons rfl (by kernel_rfl) a84 (.cons rfl (by kernel_rfl) aIQ (.cons rfl (by kernel_rfl) aRg .nil)))
theorem aRi {x:tC}(h:Bd rN x):a8P x:=by
 obtain⟨h1,h2,h3,⟨h4,k4⟩,⟨h5,k5⟩,_,⟨h7,k7⟩,_⟩:=h;exact⟨h1,h2,h3,⟨h4,k4⟩,⟨h5,k5⟩,h7,fun y hy=>⟨(k7 y hy).1,(k7 y hy).2.1⟩⟩
theorem aRj {c:C4}(h:Bd wH c):WZ c:=by
 obtain⟨h1,⟨h2,k2⟩,⟨h3,k3⟩,⟨h4,k4⟩,_⟩:=h;exact⟨h1,⟨h2,k2⟩,⟨h3,fun y hy=>⟨(k3 y hy).1,(k3 y hy).2.1⟩⟩,fun x hx=>aRi (k4 x hx)⟩
theorem aRk {W:World}(hT:J3 W) (v:Value) (c:C4) (u:Value) (s:List UInt8) (hv:sE (H8 W) W wH c v) (hu:sE (H8 W) W .str s u) (hB:Bd wH c):
  Calls Tryz.prog 8 #[v,u] W fun e W'=>e= .returned (.bool true)/\Below W.heap.size W W':=by
 have hC:a8j (QX c s) VU=some (N8 c s):=aNA _ _;have ht:=aQY (aRj hB) s;refine(aNC.1.2 (H8 W) W (QX c s) [v,u] [] _ ⟨(fun i b h=>by cases h),(fun i j bi bj b o _ h=>by cases h),fun b o h=>h,hT,(fun i blk b o h=>by cases h)⟩ ⟨v,[u],rfl,⟨hv,trivial⟩,u,[],rfl,⟨hu,trivial⟩,rfl⟩ hC ?_).mono fun e W' ⟨v,g',he,r⟩=> ?_
 ·intro p hp;have:p=((KL c s).isSome=true):=by simpa[N8] using hp
  rw[this,ht];rfl
 ·have hv:v= .bool true:=by
   have h1:=r.ret;unfold N8 at h1;rw[ht] at h1;exact wF h1.1
  subst hv;exact⟨he,⟨r.fr.os,r.fr.tape,r.fr.output,r.fr.size,fun k hk=>r.fr.blk k hk (fun o ⟨i,blk,hi,_⟩=>by cases hi)⟩⟩
end Go.Proofs.YtbbpilohihldiaaGreatDoor
namespace Go.Proofs.YtbbpilohihldiaaGreatDoor
open Go.ChangeShapes Go.WideShapes Go.ChangeAt Go.RowKit Go.Lib
theorem aRl:(Rows.treeInverseRow.inPlace==Tryz.prog.inPlace 8)=true:=by kernel_rfl
theorem aRm:(Rows.treeInverseRow.unfollowed==Tryz.prog.unfollowed 8)=true:=by kernel_rfl
theorem aRn:(Rows.treeInverseRow.recurses==Tryz.prog.recurses 8)=true:=by kernel_rfl
theorem aRo:(Rows.treeInverseRow.named==Tryz.prog.varsNamed 8)=true:=by kernel_rfl
theorem aRp:joinedFacts Tryz.prog 8 Tryz.f8 Rows.treeInverseSpec Rows.treeInverseRow=true:=by
 unfold joinedFacts;rw[aRl,aRm,aRn,aRo]
 kernel_rfl
namespace treeInverseLaw
theorem own:ownKnob Tryz.prog.godebug=none:=by kernel_rfl
theorem FM:laidOutB Tryz.prog=true:=by kernel_rfl
theorem aRq:Tryz.prog.readableRec 27=true:=by kernel_rfl
theorem ltC:27<Tryz.prog.types.size:=aUm (by kernel_rfl)
theorem aRs:Tryz.prog.readableRec 9=true:=by kernel_rfl
theorem ltS:9<Tryz.prog.types.size:=aUm (by kernel_rfl)
def RW:Value:= .agg #[.string ⟨#[]⟩,.slice none 0 0,.slice none 0 0,.slice none 0 0]
theorem aRu (os:Os) {H:Type}(enc:TypeId×Value->H):
  (OpenSpec.ofChange Rows.treeInverseSpec).preRow enc Tryz.prog Tryz.f8 [] false Rows.treeInverseRow.laid ((X9 os).forCall (fun _ _=>0) ⟨#[],#[RW,.string ⟨#[]⟩],[]⟩).memory #[RW,.string ⟨#[]⟩]:=by
 have hw:(DataW.whole enc Tryz.prog ((X9 os).forCall (fun _ _=>0) ⟨#[],#[RW,.string ⟨#[]⟩],[]⟩).memory Tryz.f8.params.toList (OpenSpec.ofChange Rows.treeInverseSpec).vars false #[RW,.string ⟨#[]⟩].toList 8).map (fun x=>(x.1,x.2.1))=
   some ([.agg [.lit (.string []),.nil,.nil,.nil],.lit (.string [])],[]):=by kernel_rfl
 obtain⟨⟨x1,x2,x3⟩,hx,hx1⟩:=aTT.1 hw;simp only[aUa] at hx1;obtain⟨rfl,rfl⟩:=hx1;exact OpenSpec.preRow_of_cond 8 hx (by kernel_rfl) (fun k hk=>by cases hk) (by kernel_rfl) (aRa os _)
theorem lifted (os:Os) (started:os.Started) (H:Type) (enc:TypeId×Value->H) (F:Stop.Interp):
  ReturnsInHanded {} Tryz.checked os 8 .any ((OpenSpec.ofChange Rows.treeInverseSpec).preRow enc Tryz.prog Tryz.f8 [] false Rows.treeInverseRow.laid) (Rows.treeInverseSpec.post enc Tryz.prog Tryz.f8 false true false false):=by
 refine aQ1 (C:=Tryz.checked) (tb:=4) own started F (by kernel_rfl) Tryz.func8 FM ?_ rfl rfl Tryz.underlying4 ?_
  (witness_row_atRef (enc:=enc) (C:=Tryz.checked) false (X9 os) #[RW,.string ⟨#[]⟩] rfl (by kernel_rfl) (by kernel_rfl) (by kernel_rfl) (aRu os enc)) ?_
 ·intro t ht;rw[Tryz.params8] at ht;simp only[aTW,aVz,or_false] at ht;rcases ht with rfl|rfl
  ·exact⟨aRq,ltC⟩
  ·exact⟨aRs,ltS⟩
 ·intro ds W args ps h;have h':DataW.TrodAll enc Tryz.prog W 0 (fun _=>true) true Tryz.f8.params.toList args.toList ds ps:=h;rw[Tryz.params8] at h';obtain⟨v0,v1,d0,d1,p0,p1,rfl,rfl,rfl,h0,h1⟩:=trodAll_two h';rfl
 ·intro W base args ds ps hval0 hA0 hlt hsz0 hL hsh;have hval: ∀(j:Nat) t v,Tryz.f8.params[j]? =some t->args[j]? =some v->Value.okWide Tryz.prog W .any base t v:=hval0;have hA:DataW.TrodAll enc Tryz.prog W 0 (fun _=>true) true Tryz.f8.params.toList args.toList ds ps:=hA0;have hsz:(DataW.weightsEach Tryz.prog Tryz.f8.params.toList ds).all (·<=reachBytes)=true:=hsz0;rw[Tryz.params8] at hA hval hsz;obtain⟨v0,v1,d0,d1,p0,p1,rfl,rfl,rfl,h0,h1⟩:=trodAll_two hA;obtain⟨c,hv,hB⟩:=aIP aRh (hval 0 27 v0 rfl rfl) h0 (fun n hn=>by
   have:=aUy.1 hsz n (DataW.weights_mem_each (j:=0) rfl rfl n hn);simpa using this)
  obtain⟨s,hu,_⟩:=aIP J2 (hval 1 9 v1 rfl rfl) h1 (fun n hn=>by
   have:=aUy.1 hsz n (DataW.weights_mem_each (j:=1) rfl rfl n hn);simpa using this)
  exact aRk (aQ9 hL hsh) v0 c v1 s hv hu hB
end treeInverseLaw
theorem aIR:Rows.TreeInverseSaid:=
 OpenClaim.holds_of_wide 8 Tryz.f8 rfl rfl rfl rfl rfl rfl rfl ⟨rfl,rfl,rfl,rfl,rfl⟩ rfl rfl rfl rfl rfl (by kernel_rfl) Tryz.func8 aRp
  (aUm (by kernel_rfl)) (by unfold Func.isWrapper;first|(rw[aTD (by decide+kernel)];kernel_rfl) |(rw[aTG (by decide+kernel)];exact⟨rfl,rfl⟩))
  (fun os started H enc _=>by rw[OpenClaim.pre_eq_preRow];exact treeInverseLaw.lifted os started H enc (fun _ _ _=>0))
#print axioms aIR
end Go.Proofs.YtbbpilohihldiaaGreatDoor
namespace Go.Proofs.YtbbpilohihldiaaGreatDoor
open Go
theorem aRv:Rows.treeInverseRow.wfByText (OpenSpec.ofChange Rows.treeInverseSpec)=true:=by kernel_rfl
theorem aRw:Tryz.prog.mainIs=some (true, "a32bce6e8aa7af12dc4e9cc10fcfd390a8b62eedc0063c9f8df073b3dc5897a3".toList):=by kernel_rfl
theorem aRx:false=Tryz.prog.looks []:=by kernel_rfl
theorem aRy:false=Rows.treeInverseRow.goesBy Tryz.prog:=by kernel_rfl
theorem aRz:Tryz.prog.funcNamed "calque/calquelaw40.TreeInverse" =some 8:=by kernel_rfl
theorem aRA:([27,9].all fun u=> !Tryz.prog.wantsStandIn u)=true:=by kernel_rfl
theorem treeInverseCard_holds:Rows.TreeInverseCardSaid:=
 Claim7.holds_tied_plain_at .later [] [.data,.data,.data,.data,.pinned] true (true, "a32bce6e8aa7af12dc4e9cc10fcfd390a8b62eedc0063c9f8df073b3dc5897a3") false
  aIR (fun _ h=>by cases h) aRv (fun _ h=>by cases h) treeInverse_row_tie rfl ⟨rfl,rfl⟩ aRw rfl
  (fun f fn hf hfn=>by
   obtain rfl:f=8:=aTI (aRz.symm.trans hf) |>.symm
   obtain rfl:fn=Tryz.f8:=(aTI (Tryz.func8.symm.trans hfn)).symm;exact⟨aRx,fun j t ht=>by
    rw[Tryz.params8] at ht;have hm:t∈[27,9]:=by simpa using Array.mem_of_getElem? ht
    exact(show Tryz.prog.wantsStandIn t=false by simpa using aUy.1 aRA t hm)⟩)
  aRy
#print axioms treeInverseCard_holds
end Go.Proofs.YtbbpilohihldiaaGreatDoor
