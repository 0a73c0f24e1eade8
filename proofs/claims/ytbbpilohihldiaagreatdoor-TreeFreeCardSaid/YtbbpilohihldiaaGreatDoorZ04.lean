/- TreeFree returns true for all arguments (a further gap at the beginning of any piece, or at the end of the body behind a line feed, changes nothing): the tied card of the statement, over the row's statement. No condition. -/
/- Packed by a program of mine (wip/tools/pack.py): the same texts with short names and few blanks. -/
import Derived.Deep.CondSized
import Derived.Deep.DeepHandedRow
import Derived.Deep.DeepWitnessRowRef
import Derived.Lib.LaidIn
import Derived.Lib.LaidU8T
import Derived.OpenShut
import Derived.ProofKit
import Derived.SevenTiedAt
import Derived.SizedLaws
import Derived.Test.YtbbpilohihldiaaGreatDoorCards
import Derived.Test.YtbbpilohihldiaaGreatDoorRows
import Derived.Test.YtbbpilohihldiaaGreatDoorTie
import Derived.WalkKit
import Derived.Test.YtbbpilohihldiaaGreatDoorZ03
set_option linter.unusedVariables false
set_option linter.unusedSimpArgs false
set_option linter.unusedSectionVars false
set_option maxRecDepth 100000
set_option maxHeartbeats 4000000
namespace Go.Proofs.YtbbpilohihldiaaGreatDoor
open Vc
def OD (c:Int):Bool:=(((decide ((127:Int)<c))||(((((!(((decide ((97:Int)<=(IntKind.wrap .u8 c)))&&(decide ((IntKind.wrap .u8 c)<=(122:Int))))||((decide ((65:Int)<=(IntKind.wrap .u8 c)))&&(decide ((IntKind.wrap .u8 c)<=(90:Int))))))&&((decide (c<(48:Int)))||(decide ((57:Int)<c))))&&(!decide (c=(45:Int))))&&(!decide (c=(95:Int))))&&(!decide (c=(46:Int)))))==true)
theorem aIE (b:UInt8):OD b.toNat= !AS b:=by
 have hb:=b.toNat_lt;unfold OD AS a4K A0;rw[show IntKind.wrap .u8 (b.toNat:Int)=(b.toNat:Int) by rw[aN0];omega];generalize (b.toNat:Int)=c at*;rw[aNM];simp;omega
theorem aIF (s:List UInt8):ID s=some (CZ (s.findIdx? fun b=> !AS b)):=by
 have h:=a8R (f:=NJ s true) (s:=s) (fun c=>OD c) (fun k=>(k:Int)) (fun c h=>by unfold OD;rw[show decide ((127:Int)<c)=true by simp;omega];rfl) (fun i h=>by
  unfold NJ;rw[aMI (by simpa using h),aMI (by simpa using h),aMI (by simpa using h)];rfl) (by
  unfold NJ;rw[aMK (by simp)])
 unfold ID KS;rw[h,FD,aMH];congr 1;rw[show (fun b:UInt8=>OD b.toNat)=fun b=> !AS b from funext aIE];cases s.findIdx? fun b=> !AS b<;>rfl
theorem aIG {t:List UInt8}(hsm:t.length<=4000000000) (b:UInt8) (p:Nat) (hp:p<=4000000000):F9 (b::t) (p:Int)=some ((vH t).1,(vH t).2.1,((p+(vH t).2.2:Nat):Int)):=by
 have hs:=GU hsm;have hct:pE (b::t) 1 ((b::t).length:Int)=t:=by
  rw[show ((1:Int))=((1:Nat):Int) from rfl,DT];rfl
 unfold F9;rw[aMI ⟨by decide,by simp only[aMO];omega,aNy _⟩,hct,aH9,show ((34:Int))=((34:UInt8).toNat:Int) from rfl,aCd (by decide) (by decide) _ _ hs,aMH];unfold vH;cases he:s8 34 t with
 |none=>
  rw[aMI (by decide)];rfl
 |some k=>
  have hk:=LH _ _ _ (aM2 _) he;have hcm:pE (b::t) 1 ((k:Int)+1)=t.take k:=by
   unfold pE;rw[show ((k:Int)+1).toNat- (1:Int).toNat=k by omega];rfl
  have hft:pQ (t.take k):=aCA hs _;show (if decide ((k:Int)<0)=true then _ else if p8 ((k:Int)+1) then if 0<=(1:Int)/\(1:Int)<=(k:Int)+1/\(k:Int)+1<=((b::t).length:Int) then(DS 3 (pE (b::t) 1 ((k:Int)+1))).bind _ else _ else _)=_;rw[aMK (by simp),aMI (sR (by omega)),aMI ⟨by decide,by omega,by simp only[aMO];omega⟩,hcm,aIn (by decide) (by decide) hft,aMH];dsimp only;generalize hu:yB 3 (t.take k)=u;have hul:pQ u.1:=by
   have:=a4M 3 (t.take k);rw[hu,aM5] at this;unfold pQ;omega
  have ht1:=aH7 u.1 hul;rw[aMI (fun _=>by rw[ht1];rfl)];show (if (!decide (u.2.2=0)|| !tK u.1)=true then _ else _)=_
  by_cases hb:u.2.2≠0\/tK u.1=false
  ·rw[aMI hb,aMI (by
    rcases hb with hb|hb
    ·simp [hb]
    ·simp [hb])]
   rfl
  ·have hb1:u.2.2=0:=by
    by_cases h:u.2.2=0
    ·exact h
    ·exact absurd (.inl h) hb
   have hb2:tK u.1=true:=by
    cases h:tK u.1 with
    |true=>rfl
    |false=>exact absurd (.inr h) hb
   rw[aMK hb,aMK (by simp [hb1,hb2])];show (if p8 ((p:Int)+(k:Int)) then if p8 ((p:Int)+(k:Int)+2) then _ else _ else _)=_;rw[aMI (by unfold p8;omega),aMI (by unfold p8;omega)];show some ((1:Int),u.1,(p:Int)+(k:Int)+2)=some ((1:Int),u.1,((p+(k+2):Nat):Int));rw[show (p:Int)+(k:Int)+2=((p+(k+2):Nat):Int) by omega]
theorem a4N {s:List UInt8}(hsm:s.length<=4000000000) {i:Nat}(hi:i<=s.length):
  AN (s,((i:Int),()))=some ((rY (s.drop i)).1,(rY (s.drop i)).2.1,((i+(rY (s.drop i)).2.2.1:Nat):Int),((i+(rY (s.drop i)).2.2.2:Nat):Int),((i+(rY (s.drop i)).2.2.2:Nat):Int)):=by
 have hs:=GU hsm;have hgl:=IT (s.drop i).length (s.drop i) (aM2 _);rw[aMP] at hgl;unfold AN;rw[aIw hs hi,aMH];dsimp only;obtain⟨p,hp⟩: ∃p,i+(G (s.drop i)).1=p:=⟨_,rfl⟩;have hdp:(s.drop i).drop (G (s.drop i)).1=s.drop p:=by rw[aNo,hp]
 have hpl:p<=s.length:=by omega
 rw[hp];by_cases hg:(G (s.drop i)).2=true
 ·rw[aMK (by rw[hg];decide)];have hspec: ∀k t n,sL (s.drop p)=(k,t,n)->((rY (s.drop i)).1,(rY (s.drop i)).2.1,((i+(rY (s.drop i)).2.2.1:Nat):Int),((i+(rY (s.drop i)).2.2.2:Nat):Int),((i+(rY (s.drop i)).2.2.2:Nat):Int))=(k,t,(p:Int),((p+n:Nat):Int),((p+n:Nat):Int)):=by
   intro k t n hk;unfold rY;rw[aMI hg,hdp,hk];dsimp only;rw[<-aNn,hp]
  by_cases hend:p=s.length
  ·have hnil:s.drop p=[]:=by rw[hend,aNu]
   rw[aMI (by rw[hend];simp),hspec 4 [] 0 (by rw[hnil];rfl)];rfl
  ·have hlt:p<s.length:=by omega
   have hd:=aM8 hlt;have hdl:(s.drop p).length=s.length-p:=aMP;have hb:pI (s.drop p) 0=(s[p].toNat:Int):=by
    rw[hd];exact xB (i:=0) (by simp only[aMO];omega)
   rw[aMK (by simp;omega),DT,aMI ⟨by omega,by omega,aNy _⟩,aMI ⟨aNy _,by omega⟩,hb,uG (n:=123) 123 rfl,uG (n:=125) 125 rfl,uG (n:=34) 34 rfl];by_cases h1:s[p]=123\/s[p]=125
   ·have hz:pE (s.drop p) 0 1=[s[p]]:=by rw[hd];rfl
    rw[aMI (by simpa using h1),aMI ⟨aNy _,by decide,by omega⟩,aMI (sR (by omega)),hz,hspec 3 [s[p]] 1 (by rw[hd];exact DW h1)];rfl
   ·rw[aMK (by simpa using h1)];by_cases h2:s[p]=34
    ·have hA:sL (s.drop p)=vH (s.drop (p+1)):=by rw[hd];exact C3 h1 h2
     rw[aMI (by simpa using h2)];have hq:=aIG (t:=s.drop (p+1)) (by rw[aMP];omega) s[p] p (by omega);rw[<-hd] at hq;rw[hq,aMH,hspec (vH (s.drop (p+1))).1 (vH (s.drop (p+1))).2.1 (vH (s.drop (p+1))).2.2 hA]
    ·rw[aMK (by simpa using h2)];show (if A0 (s[p].toNat:Int)=true then _ else _)=_;by_cases h3:A0 (s[p].toNat:Int)=true
     ·have hw:=a4L (s.drop p);rw[hdl] at hw;rw[aMI h3,aIF,aMH,hspec 2 ((s.drop p).take (uU (s.drop p))) (uU (s.drop p)) (by rw[hd];exact C5 h1 h2 h3)];have hx:(if decide (CZ ((s.drop p).findIdx? fun b=> !AS b)<0)=true then some ((s.drop p).length:Int) else some (CZ ((s.drop p).findIdx? fun b=> !AS b)))=some (uU (s.drop p):Int):=by
       unfold uU;cases(s.drop p).findIdx? fun b=> !AS b with
       |none=>rw[aMI (by decide)];rfl
       |some k=>rw[aMK (by show¬decide ((k:Int)<0)=true;simp)];rfl
      rw[hx];unfold rE;rw[aMH,aMI ⟨aNy _,by omega,by omega⟩,aMI (by unfold p8;omega),SY];rfl
     ·rw[aMK h3,hspec 0 [] 0 (by rw[hd];exact GT h1 h2 h3)];rfl
 ·have hg':(G (s.drop i)).2=false:=by simpa using hg
  rw[aMI (by rw[hg'];rfl)];unfold rY;rw[aMK hg];dsimp only;rw[hp]
def kS (s:List UInt8) (P:Nat):Int:=(rY (s.drop P)).1
def xS (s:List UInt8) (P:Nat):List UInt8:=(rY (s.drop P)).2.1
def fS (s:List UInt8) (P:Nat):Nat:=P+(rY (s.drop P)).2.2.1
def nS (s:List UInt8) (P:Nat):Nat:=P+(rY (s.drop P)).2.2.2
theorem rU {s:List UInt8}{P:Nat}(h:P<=s.length):P<=nS s P/\nS s P<=s.length:=by
 have:=aIz (s.drop P);rw[aMP] at this;unfold nS;omega
theorem uH {p:Prop}{α:Type}{v:α}:p->(some v).isSome=true:=fun _=>rfl
abbrev C4:=List UInt8×(List (List UInt8)×(List rC×(List qT×Unit)))
abbrev R8:=Int×Int×List UInt8×Int×Int×Int×Int×Int
def sV (s:List UInt8) (P:Nat) (a:Int):R8:=((nS s P:Int),kS s P,xS s P,(fS s P:Int),(nS s P:Int),a,0,(P:Int))
section
variable {s:List UInt8}(hsm:s.length<=4000000000) {P:Nat}(hP:P<=s.length) {c:C4}{a e en at0 f t:Int}{k:Int}{x:List UInt8}{ends:List Int}{ids:List (List UInt8×Bool)}
include hsm hP
theorem OE:s9 (s,(((P:Nat):Int),())) (k,(x,(f,(t,())))) a 0 c (ends,(en,())) ids=some ((nS s P:Int),kS s P,xS s P,(fS s P:Int),(nS s P:Int),t):=by
 unfold s9;dsimp only;rw[aMI (by decide),a4N hsm hP];rfl
omit hsm hP in
theorem OF (he:e≠0):s9 (s,(at0,())) (k,(x,(f,(t,())))) a e c (ends,(en,())) ids=some (at0,k,x,f,t,en):=by
 unfold s9;dsimp only;rw[aMK (by simpa using he)]
omit hsm hP in
theorem TA {r1:List UInt8×(Int×Unit)}{code:Int}{r6:List Int×(Int×Unit)}:tP r1 (k,(x,(f,(t,())))) a 0 c r6 code ids=(f,code):=by
 unfold tP;rw[aMI (by decide)]
omit hsm hP in
theorem aIH {r1:List UInt8×(Int×Unit)}{code:Int}{r6:List Int×(Int×Unit)}(he:e≠0):tP r1 (k,(x,(f,(t,())))) a e c r6 code ids=(a,e):=by
 unfold tP;rw[aMK (by simpa using he)]
omit hsm hP in
theorem BJ {c':C4}{code:Int}(hc:code≠0):(qW (tP (s,(at0,())) (k,(x,(f,(t,())))) a 0 c (ends,(en,())) code ids) fun r=>
  (s9 (s,(at0,())) (k,(x,(f,(t,())))) r.1 r.2 c' (ends,(en,())) ids).bind fun r'=>some ((r'.1,r'.2.1,r'.2.2.1,r'.2.2.2.1,r'.2.2.2.2.1,r.1,r.2,r'.2.2.2.2.2):R8))=some (at0,k,x,f,t,f,code,en):=by
 unfold qW;rw[TA];dsimp only;rw[OF hc];rfl
omit hsm hP in
theorem IU {c':C4}{code:Int}(he:e≠0):(qW (tP (s,(at0,())) (k,(x,(f,(t,())))) a e c (ends,(en,())) code ids) fun r=>
  (s9 (s,(at0,())) (k,(x,(f,(t,())))) r.1 r.2 c' (ends,(en,())) ids).bind fun r'=>some ((r'.1,r'.2.1,r'.2.2.1,r'.2.2.2.1,r'.2.2.2.2.1,r.1,r.2,r'.2.2.2.2.2):R8))=some (at0,k,x,f,t,a,e,en):=by
 unfold qW;rw[aIH he];dsimp only;rw[OF he];rfl
theorem IV {c':C4}:((s9 (s,(((P:Nat):Int),())) (k,(x,(f,(((P:Nat):Int),())))) a 0 c' (ends,(en,())) ids).bind fun r'=>some ((r'.1,r'.2.1,r'.2.2.1,r'.2.2.2.1,r'.2.2.2.2.1,a,0,r'.2.2.2.2.2):R8))=some (sV s P a):=by
 rw[OE hsm hP];rfl
omit hsm hP in
theorem TB {c':C4}(he:e≠0):((s9 (s,(at0,())) (k,(x,(f,(t,())))) a e c' (ends,(en,())) ids).bind fun r'=>some ((r'.1,r'.2.1,r'.2.2.1,r'.2.2.2.1,r'.2.2.2.2.1,a,e,r'.2.2.2.2.2):R8))=some (at0,k,x,f,t,a,e,en):=by
 rw[OF he];rfl
def sW (bad dup much:Bool):Int:=if bad=true then 3 else if dup=true then 9 else if much=true then 6 else 0
def tG (s:List UInt8) (P:Nat) (a at0 k:Int) (x:List UInt8) (f t en:Int) (code:Int):R8:=if code=0 then sV s P a else(at0,k,x,f,t,f,code,en)
theorem OG {kind:Int}{text:List UInt8}:wT (s,(((P:Nat):Int),())) (k,(x,(f,(((P:Nat):Int),())))) a 0 c (ends,(en,())) kind text ids=some (tG s P a P k x f P en (if k=kind/\x=text then 0 else 3)):=by
 unfold wT tG;dsimp only;by_cases h:k=kind/\x=text
 ·rw[aMK (by simp [h.1,h.2]),IV hsm hP,aMI h,aMI rfl]
 ·rw[aMI (by simp only[decide_true,Bool.true_and,aNh,aOv,aNr];exact Decidable.not_and_iff_or_not.1 h),BJ (by decide),aMK h,aMK (by decide)]
omit hsm hP in
theorem TC {kind:Int}{text:List UInt8}(he:e≠0):wT (s,(at0,())) (k,(x,(f,(t,())))) a e c (ends,(en,())) kind text ids=some (at0,k,x,f,t,a,e,en):=by
 unfold wT;dsimp only;rw[aMI (by simp [he]),IU he]
theorem aII {kind:Int}:z7 (s,(((P:Nat):Int),())) (k,(x,(f,(((P:Nat):Int),())))) a 0 c (ends,(en,())) kind false ids=some (tG s P a P k x f P en (sW (decide (k≠kind)) false false)):=by
 unfold z7 tG sW;dsimp only;by_cases h:k=kind
 ·rw[aMK (by simp [h]),aMK (by decide),aMK (by decide),IV hsm hP];simp [h]
 ·rw[aMI (by simp [h]),BJ (by decide)];simp [h]
omit hsm hP in
theorem aIJ {kind:Int}(he:e≠0):z7 (s,(at0,())) (k,(x,(f,(t,())))) a e c (ends,(en,())) kind false ids=some (at0,k,x,f,t,a,e,en):=by
 unfold z7;dsimp only;by_cases h:k=kind
 ·rw[aMK (by simp [h]),aMK (by decide),aMK (by decide),TB he]
 ·rw[aMI (by simp [h]),IU he]
theorem aIK {kind:Int}:z8 (s,(((P:Nat):Int),())) (k,(x,(f,(((P:Nat):Int),())))) a 0 c (ends,(en,())) kind false ids=some (tG s P a P k x f P en (sW (decide (k≠kind)|| !tW x) false false)):=by
 unfold z8 tG sW;dsimp only;rw[aBQ,aMI uH];by_cases h:k=kind/\tW x=true
 ·rw[aMK (by simp [h.1,h.2,val]),aMK (by decide),aMK (by decide),IV hsm hP];simp [h.1,h.2]
 ·have hb:(!decide (k=kind)|| !val (some (tW x)))=true:=by
   by_cases h1:k=kind
   ·have h2:tW x=false:=by cases h2:tW x with|true=>exact absurd ⟨h1,h2⟩ h|false=>rfl
    simp [h2,val]
   ·simp [h1]
  have hb2:(decide (k≠kind)|| !tW x)=true:=by simpa[val] using hb
  rw[aMI hb,BJ (by decide),hb2];simp
omit hsm hP in
theorem aIL {kind:Int}(he:e≠0):z8 (s,(at0,())) (k,(x,(f,(t,())))) a e c (ends,(en,())) kind false ids=some (at0,k,x,f,t,a,e,en):=by
 unfold z8;dsimp only;rw[aBQ,aMI uH];by_cases h:(!decide (k=kind)|| !val (some (tW x)))=true
 ·rw[aMI h,IU he]
 ·rw[aMK h,aMK (by decide),aMK (by decide),TB he]
theorem aIM {kind:Int}:zA (s,(((P:Nat):Int),())) (k,(x,(f,(((P:Nat):Int),())))) a 0 c (ends,(en,())) kind false ids=some (tG s P a P k x f P en (sW (decide (k≠kind)|| !decide (0<=sS x)) false false)):=by
 unfold zA tG sW;dsimp only;rw[(SW x).1,aMI uH];have hb2:(!decide (k=kind)|| !val (some (decide (0<=sS x))))=(decide (k≠kind)|| !decide (0<=sS x)):=by simp [val]
 rw[hb2];by_cases h:(decide (k≠kind)|| !decide (0<=sS x))=true
 ·rw[aMI h,BJ (by decide),aMI h,aMK (by decide)]
 ·rw[aMK h,aMK (by decide),aMK (by decide),IV hsm hP,aMK h];simp
omit hsm hP in
theorem aIN {kind:Int}(he:e≠0):zA (s,(at0,())) (k,(x,(f,(t,())))) a e c (ends,(en,())) kind false ids=some (at0,k,x,f,t,a,e,en):=by
 unfold zA;dsimp only;rw[(SW x).1,aMI uH];by_cases h:(!decide (k=kind)|| !val (some (decide (0<=sS x))))=true
 ·rw[aMI h,IU he]
 ·rw[aMK h,aMK (by decide),aMK (by decide),TB he]
end
theorem yE {b:Bool}{d m:Bool}(h:b=true):sW b d m=3:=by unfold sW;rw[aMI h]
theorem LK {b:Bool}{d m:Bool}(h: ¬b=true) (h2:d=true):sW b d m=9:=by unfold sW;rw[aMK h,aMI h2]
theorem LL {b:Bool}{d m:Bool}(h: ¬b=true) (h2: ¬d=true) (h3:m=true):sW b d m=6:=by unfold sW;rw[aMK h,aMK h2,aMI h3]
theorem C6 {b:Bool}{d m:Bool}(h: ¬b=true) (h2: ¬d=true) (h3: ¬m=true):sW b d m=0:=by unfold sW;rw[aMK h,aMK h2,aMK h3]
section
variable {s:List UInt8}(hsm:s.length<=4000000000) {P:Nat}(hP:P<=s.length) {c:C4}{a e en at0 f t:Int}{k:Int}{x:List UInt8}{ends:List Int}{ids:List (List UInt8×Bool)}
 {b9 b10 b11:List UInt8}{b12 b18:List (List UInt8)}{b13:Int×(List rC×Unit)}{b14:Bool}{b21:List (List UInt8×Bool)}
include hsm hP
theorem aIO {kind:Int}{much:Bool}(hfl:pQ b13.2.1):AO (s,(((P:Nat):Int),())) (k,(x,(f,(((P:Nat):Int),())))) a 0 c (ends,(en,())) kind much ids b9 b10 b11 b12 b13 b14 b18 b21=
  some (tG s P a P k x f P en (sW (decide (k≠kind)|| !rT x) (b13.2.1.any fun y=>decide (y.1=x)) much)):=by
 unfold AO L2 tG;dsimp only;rw[aBT,aMI uH];have hb2:(!decide (k=kind)|| !val (some (rT x)))=(decide (k≠kind)|| !rT x):=by simp [val]
 rw[hb2];by_cases h:(decide (k≠kind)|| !rT x)=true
 ·rw[aMI h,BJ (by decide),yE h,aMK (by decide)]
 ·rw[aMK h,aHP _ _ hfl,aMH,aMH,aBW];by_cases h2:(b13.2.1.any fun y=>decide (y.1=x))=true
  ·rw[aMI h2,BJ (by decide),LK h h2,aMK (by decide)]
  ·rw[aMK h2];by_cases h3:much=true
   ·rw[aMI h3,BJ (by decide),LL h h2 h3,aMK (by decide)]
   ·rw[aMK h3,IV hsm hP,C6 h h2 h3,aMI rfl]
theorem aIP {kind:Int}{much:Bool}(hfl:pQ b18):AP (s,(((P:Nat):Int),())) (k,(x,(f,(((P:Nat):Int),())))) a 0 c (ends,(en,())) kind much ids b9 b10 b11 b12 b13 b14 b18 b21=
  some (tG s P a P k x f P en (sW (decide (k≠kind)|| !rT x) (b18.any fun y=>decide (y=x)) much)):=by
 unfold AP KY tG;dsimp only;rw[aBT,aMI uH];have hb2:(!decide (k=kind)|| !val (some (rT x)))=(decide (k≠kind)|| !rT x):=by simp [val]
 rw[hb2];by_cases h:(decide (k≠kind)|| !rT x)=true
 ·rw[aMI h,BJ (by decide),yE h,aMK (by decide)]
 ·rw[aMK h,aHN _ _ hfl,aMH,aMH];by_cases h2:(b18.any fun y=>decide (y=x))=true
  ·rw[aMI h2,BJ (by decide),LK h h2,aMK (by decide)]
  ·rw[aMK h2];by_cases h3:much=true
   ·rw[aMI h3,BJ (by decide),LL h h2 h3,aMK (by decide)]
   ·rw[aMK h3,IV hsm hP,C6 h h2 h3,aMI rfl]
def D0 (x:List UInt8):Bool:= !decide (x=[])&&decide ((x.length:Int)<=200)
theorem aIQ {kind:Int}{much:Bool}:zE (s,(((P:Nat):Int),())) (k,(x,(f,(((P:Nat):Int),())))) a 0 c (ends,(en,())) kind much ids=
  some (tG s P a P k x f P en (sW (decide (k≠kind)|| !D0 x) (rM .str .bool ids x) much)):=by
 unfold zE tG;dsimp only;have hb2:(!decide (k=kind)|| !(!decide (x=[])&&decide ((x.length:Int)<=200)))=(decide (k≠kind)|| !D0 x):=by simp [D0]
 rw[hb2];by_cases h:(decide (k≠kind)|| !D0 x)=true
 ·rw[aMI h,BJ (by decide),yE h,aMK (by decide)]
 ·rw[aMK h];by_cases h2:rM .str .bool ids x=true
  ·rw[aMI h2,BJ (by decide),LK h h2,aMK (by decide)]
  ·rw[aMK h2];by_cases h3:much=true
   ·rw[aMI h3,BJ (by decide),LL h h2 h3,aMK (by decide)]
   ·rw[aMK h3,IV hsm hP,C6 h h2 h3,aMI rfl]
omit hsm hP in
theorem aIR {kind:Int}{much:Bool}(he:e≠0):zE (s,(at0,())) (k,(x,(f,(t,())))) a e c (ends,(en,())) kind much ids=some (at0,k,x,f,t,a,e,en):=by
 unfold zE;dsimp only;by_cases h:(!decide (k=kind)|| !(!decide (x=[])&&decide ((x.length:Int)<=200)))=true
 ·rw[aMI h,IU he]
 ·rw[aMK h];by_cases h2:rM .str .bool ids x=true
  ·rw[aMI h2,IU he]
  ·rw[aMK h2];by_cases h3:much=true
   ·rw[aMI h3,IU he]
   ·rw[aMK h3,TB he]
theorem a4O:z6 (s,(((P:Nat):Int),())) (k,(x,(f,(((P:Nat):Int),())))) a 0 c (ends,(en,())) b9 b10 b11 b12 b13 b14 ids b18 b21=
  some (tG s P a P k x f P en (if rM .str .bool b21 x=true then 9 else 0)):=by
 unfold z6 tG;dsimp only;by_cases h:rM .str .bool b21 x=true
 ·rw[aMI h,aMI h,aMK (by decide)];unfold qW rE;rw[TA,aMH];dsimp only;rw[OF (by decide)];rfl
 ·rw[aMK h,aMK h,aMI rfl];unfold rE;rw[aMH];dsimp only;rw[OE hsm hP];rfl
theorem TD:wS (s,(((P:Nat):Int),())) (k,(x,(f,(((P:Nat):Int),())))) a 0 c (ends,(en,())) ids=some (tG s P a P k x f P en (sW (decide (k≠1)) false false)):=by
 unfold wS;rw[aII hsm hP];rfl
omit hsm hP in
theorem TE (he:e≠0):wS (s,(at0,())) (k,(x,(f,(t,())))) a e c (ends,(en,())) ids=some (at0,k,x,f,t,a,e,en):=by
 unfold wS;rw[aIJ he];rfl
end
def ext {V:Type}(r:R8) (v:V):Int×Int×List UInt8×Int×Int×Int×Int×Int×V:=(r.1,r.2.1,r.2.2.1,r.2.2.2.1,r.2.2.2.2.1,r.2.2.2.2.2.1,r.2.2.2.2.2.2.1,r.2.2.2.2.2.2.2,v)
section
variable {s:List UInt8}(hsm:s.length<=4000000000) {P:Nat}(hP:P<=s.length) {c:C4}{a e en at0 f t:Int}{k:Int}{x:List UInt8}{ends:List Int}{ids:List (List UInt8×Bool)}
 {b9 b10 b11:List UInt8}{b12 b18:List (List UInt8)}{b13:Int×(List rC×Unit)}{b14:Bool}{b21:List (List UInt8×Bool)}
include hsm hP
theorem aIS (hl:b12.length<=1000) (h20:b12.length≠20):xE (s,(((P:Nat):Int),())) (k,(x,(f,(((P:Nat):Int),())))) a 0 c (ends,(en,())) b9 b10 b11 b12 b13 b14 ids b18 b21=
  some (ext (tG s (nS s P) a (nS s P) (kS s P) (xS s P) (fS s P) (nS s P) P (sW (decide (kS s P≠1)) false false)) (b12++[xS s P])):=by
 unfold xE;dsimp only;rw[aMK (by simp;omega)];unfold rE;rw[aMH];dsimp only;rw[OE hsm hP,aMH];dsimp only;rw[TD hsm (rU hP).2,aMH,aMI (by simp;omega)];rfl
omit hsm hP in
theorem aIT (h20:b12.length=20): ∃y,xE (s,(at0,())) (k,(x,(f,(t,())))) a 0 c (ends,(en,())) b9 b10 b11 b12 b13 b14 ids b18 b21=some (ext (at0,k,x,f,t,f,6,en) (b12++[y])):=by
 refine⟨x,?_⟩;unfold xE;dsimp only;rw[aMI (by simp;omega)];unfold rE qW;rw[TA,aMH];dsimp only;rw[OF (by decide),aMH];dsimp only;rw[TE (by decide),aMH,aMI (by simp;omega)];rfl
theorem aIU (hl:b13.2.1.length<=1000): ∃v,zF (s,(((P:Nat):Int),())) (k,(x,(f,(((P:Nat):Int),())))) a 0 c (ends,(en,())) b9 b10 b11 b12 b13 b14 ids b18 b21=
  some (ext (if sW (decide (kS s P≠1)|| !rT (xS s P)) (b13.2.1.any fun y=>decide (y.1=xS s P)) (decide (b13.2.1.length=20))=0 then tG s (nS s (nS s P)) a (nS s (nS s P)) (kS s (nS s P)) (xS s (nS s P)) (fS s (nS s P)) (nS s (nS s P)) (nS s P) (sW (decide (kS s (nS s P)≠1)) false false)
   else((nS s P:Int),kS s P,xS s P,(fS s P:Int),(nS s P:Int),(fS s P:Int),sW (decide (kS s P≠1)|| !rT (xS s P)) (b13.2.1.any fun y=>decide (y.1=xS s P)) (decide (b13.2.1.length=20)),(P:Int))) (AQ b13.2.1 (xS s P) v))/\
  (sW (decide (kS s P≠1)|| !rT (xS s P)) (b13.2.1.any fun y=>decide (y.1=xS s P)) (decide (b13.2.1.length=20))=0->v=xS s (nS s P)):=by
 have hfit:pQ b13.2.1:=by unfold pQ;omega
 have hQ:=(rU hP).2;have hR:=(rU hQ).2;have hd:decide ((b13.2.1.length:Int)=(20:Int))=decide (b13.2.1.length=20):=by
  rw[aNM];simp;omega
 unfold zF;rw[OE hsm hP,aMH];dsimp only;rw[hd,aIO hsm hQ hfit,aMH];generalize sW (decide (kS s P≠1)|| !rT (xS s P)) (b13.2.1.any fun y=>decide (y.1=xS s P)) (decide (b13.2.1.length=20))=code
 unfold tG;by_cases hc:code=0
 ·refine⟨xS s (nS s P),?_,fun _=>rfl⟩;rw[aMI hc,aMI hc];unfold sV;dsimp only;rw[TD hsm hR,aMH,aB0 _ _ _ hfit];rfl
 ·refine⟨xS s P,?_,fun h=>absurd h hc⟩;rw[aMK hc,aMK hc];dsimp only;rw[TE hc,aMH,aB0 _ _ _ hfit];rfl
theorem aIV: ∃v,zU (s,(((P:Nat):Int),())) (k,(x,(f,(((P:Nat):Int),())))) a 0 c (ends,(en,())) b9 b10 b11 b12 b13 b14 ids b18 b21=
  some (ext (if rM .str .bool b21 x=true then((P:Int),k,x,f,(P:Int),f,9,en) else tG s (nS s P) a (nS s P) (kS s P) (xS s P) (fS s P) (nS s P) P (sW (decide (kS s P≠1)) false false)) v)/\(¬rM .str .bool b21 x=true->v=xS s P):=by
 have hQ:=(rU hP).2;unfold zU;rw[a4O hsm hP,aMH];unfold tG;by_cases h:rM .str .bool b21 x=true
 ·refine⟨x,?_,fun h'=>absurd h h'⟩;rw[aMI h,aMK (by decide),aMI h];dsimp only;rw[TE (by decide),aMH];rfl
 ·refine⟨xS s P,?_,fun _=>rfl⟩;rw[aMK h,aMI rfl,aMK h];unfold sV;dsimp only;rw[TD hsm hQ,aMH];rfl
theorem aIW: ∃v,zV (s,(((P:Nat):Int),())) (k,(x,(f,(((P:Nat):Int),())))) a 0 c (ends,(en,())) b9 b10 b11 b12 b13 b14 ids b18 b21=
  some (ext (if rM .str .bool b21 x=true then((P:Int),k,x,f,(P:Int),f,9,en) else tG s (nS s P) a (nS s P) (kS s P) (xS s P) (fS s P) (nS s P) P (sW (decide (kS s P≠1)) false false)) v)/\(¬rM .str .bool b21 x=true->v=xS s P):=by
 have hQ:=(rU hP).2;unfold zV;rw[a4O hsm hP,aMH];unfold tG;by_cases h:rM .str .bool b21 x=true
 ·refine⟨x,?_,fun h'=>absurd h h'⟩;rw[aMI h,aMK (by decide),aMI h];dsimp only;rw[TE (by decide),aMH];rfl
 ·refine⟨xS s P,?_,fun _=>rfl⟩;rw[aMK h,aMI rfl,aMK h];unfold sV;dsimp only;rw[TD hsm hQ,aMH];rfl
theorem aIX: ∃v,zT (s,(((P:Nat):Int),())) (k,(x,(f,(((P:Nat):Int),())))) a 0 c (ends,(en,())) b9 b10 b11 b12 b13 b14 ids b18 b21=
  some (ext (if rM .str .bool b21 x=true then((P:Int),k,x,f,(P:Int),f,9,en) else tG s (nS s P) a (nS s P) (kS s P) (xS s P) (fS s P) (nS s P) P (sW (decide (kS s P≠2)|| !decide (0<=sS (xS s P))) false false)) v)/\(¬rM .str .bool b21 x=true->v=max 0 (sS (xS s P))):=by
 have hQ:=(rU hP).2;unfold zT;rw[a4O hsm hP,aMH];unfold tG;by_cases h:rM .str .bool b21 x=true
 ·refine⟨max 0 (sS x),?_,fun h'=>absurd h h'⟩;rw[aMI h,aMK (by decide),aMI h];dsimp only;rw[aIN (by decide),aMH];show (BA BF x).bind _=_;rw[(SW x).2];rfl
 ·refine⟨max 0 (sS (xS s P)),?_,fun _=>rfl⟩;rw[aMK h,aMI rfl,aMK h];unfold sV;dsimp only;rw[aIM hsm hQ,aMH];show (BA BF (xS s P)).bind _=_;rw[(SW (xS s P)).2];rfl
theorem QF (hl:b18.length<=1000):y9 (s,(((P:Nat):Int),())) (k,(x,(f,(((P:Nat):Int),())))) a 0 c (ends,(en,())) b9 b10 b11 b12 b13 b14 ids b18 b21=
  some (ext (tG s (nS s P) a (nS s P) (kS s P) (xS s P) (fS s P) (nS s P) P (sW (decide (kS s P≠2)|| !rT (xS s P)) (b18.any fun y=>decide (y=xS s P)) (decide (b18.length=20)))) (b18++[xS s P])):=by
 have hfit:pQ b18:=by unfold pQ;omega
 have hQ:=(rU hP).2;have hd:decide ((((b18.length):Nat):Int)=(20:Int))=decide (b18.length=20):=by
  rw[aNM];simp;omega
 unfold y9;rw[OE hsm hP,aMH];dsimp only;rw[hd,aIP hsm hQ hfit,aMH,aMI (by simp;omega)];rfl
end
theorem yF {k j:Int}(h0:j≠0) (h4:j≠4):kR k=j↔k=j:=by
 unfold kR;split
 ·rename_i h;subst h;constructor
  ·intro h;exact absurd h.symm h0
  ·intro h;exact absurd h.symm h4
 ·rfl
abbrev E7:=Int×Int×Int×Int×List UInt8×Int×Int
def OH (s:List UInt8) (P:Nat) (bad:Int) (ok:Bool):E7:=
 if ok=true then((nS s P:Int),bad,0,kR (kS s P),xS s P,(fS s P:Int),(nS s P:Int)) else((P:Int),(fS s P:Int),3,kR (kS s P),xS s P,(fS s P:Int),(nS s P:Int))
theorem u6 {s:List UInt8}{P:Nat}{bad:Int}{ok:Bool}(h:ok=true):OH s P bad ok=((nS s P:Int),bad,0,kR (kS s P),xS s P,(fS s P:Int),(nS s P:Int)):=aMI h
theorem vA {s:List UInt8}{P:Nat}{bad:Int}{ok:Bool}(h: ¬ok=true):OH s P bad ok=((P:Int),(fS s P:Int),3,kR (kS s P),xS s P,(fS s P:Int),(nS s P:Int)):=aMK h
section
variable {s:List UInt8}(hsm:s.length<=4000000000) {P:Nat}(hP:P<=s.length) {c:C4}{bad e:Int}{ends:List Int}{kind:Int}{text:List UInt8}
include hsm hP
theorem OI:L4 s (P:Int)=some (kR (kS s P),xS s P,(fS s P:Int),(nS s P:Int)):=aID hsm hP
omit hsm hP in
theorem uV {k:Int}{x:List UInt8}{f t:Int}{a:Int}{code:Int}:wR (s,(a,(bad,(0,(c,(ends,())))))) (k,(x,(f,(t,())))) code=(f,code):=by
 unfold wR;exact aMI (show decide ((0:Int)=0)=true from rfl)
theorem yG:uN (s,((P:Int),(bad,(0,(c,(ends,())))))) kind text=some (OH s P bad (decide (kR (kS s P)=kind)&&(decide (text=[])||decide (xS s P=text)))):=by
 unfold uN OH;dsimp only;rw[OI hsm hP,aMH];dsimp only;rw[aMK (show¬(!decide ((0:Int)=0))=true from by decide)];by_cases h:(decide (kR (kS s P)=kind)&&(decide (text=[])||decide (xS s P=text)))=true
 ·rw[aMI h,aMK];simp only[aMS,aNz,aMQ] at h;simp only[aNz,aMS,aNh,aNr,not_or,not_and,Decidable.not_not];refine⟨h.1,fun ht=> ?_⟩;rcases h.2 with h2|h2
  ·exact absurd h2 ht
  ·exact h2
 ·rw[aMK h,aMI]
  ·unfold qW;rw[uV]
  ·simp only[aMS,aNz,aMQ,not_and,not_or] at h;simp only[aNz,aMS,aNh,aNr];by_cases hk:kR (kS s P)=kind
   ·exact .inr (h hk)
   ·exact .inl hk
theorem FI (he:e≠0):uN (s,((P:Int),(bad,(e,(c,(ends,())))))) kind text=some ((P:Int),bad,e,kR (kS s P),xS s P,(fS s P:Int),(nS s P:Int)):=by
 unfold uN;dsimp only;rw[OI hsm hP,aMH];dsimp only;rw[aMI (by simpa using he)]
theorem A2 {j:Int}(h0:j≠0) (h4:j≠4):uN (s,((P:Int),(bad,(0,(c,(ends,())))))) j []=some (OH s P bad (decide (kS s P=j))):=by
 rw[yG hsm hP];congr 2;rw[aNM];simp [yF h0 h4]
def DX (s:List UInt8) (P:Nat) (bad:Int) (fl:List rC):Int×Int×Int×List rC:=
 if kS s P≠1 then((P:Int),(fS s P:Int),3,fl)
 else if rT (xS s P)=false then((nS s P:Int),(fS s P:Int),3,fl)
 else if (fl.any fun y=>decide (y.1=xS s P))=true then((nS s P:Int),(fS s P:Int),9,fl)
 else if 20<=fl.length then((nS s P:Int),(fS s P:Int),6,fl)
 else if kS s (nS s P)≠1 then((nS s P:Int),(fS s (nS s P):Int),3,AQ fl (xS s P) (xS s (nS s P)))
 else((nS s (nS s P):Int),bad,0,AQ fl (xS s P) (xS s (nS s P)))
theorem GV:pQ (xS s P):=by
 have h1:=hsm;have:(xS s P).length<=4000000000:=by
  unfold xS rY;split
  ·dsimp only;generalize hr:(s.drop P).drop (G (s.drop P)).1=r;have hrl:r.length<=s.length:=by rw[<-hr,aMP,aMP];omega
   unfold sL;split
   ·simp
   ·rename_i b t;simp only[aMO] at hrl;split
    ·simp
    ·split
     ·unfold vH;cases he:s8 34 t with
      |none=>simp
      |some n=>
       dsimp only;split
       ·simp
       ·have:=a4M 3 (t.take n);rw[aM5] at this;show (yB 3 (t.take n)).1.length<=_;omega
     ·split
      ·show ((b::t).take _).length<=_;rw[aM5];simp only[aMO];omega
      ·simp
  ·simp
 unfold pQ;omega
theorem aIY {i:qT}(hl:i.2.2.2.2.2.2.1.length<=1000):SK (s,((P:Int),(bad,(0,(c,(ends,())))))) i=some (DX s P bad i.2.2.2.2.2.2.1):=by
 have hfit:pQ i.2.2.2.2.2.2.1:=by unfold pQ;omega
 have hQ:=(rU hP).2;unfold SK DX;rw[A2 hsm hP (by decide) (by decide),aMH];by_cases h1:kS s P=1
 ·rw[u6 (by simpa using h1),aMK (show¬kS s P≠1 from by simpa using h1)];dsimp only;rw[aMK (show¬(!decide ((0:Int)=0))=true from by decide),aHO _ _ hfit,aMH,aBR _ (GV hsm hP),aMH];by_cases h2:rT (xS s P)=true
  ·rw[aMK (show¬(!rT (xS s P))=true from by simp [h2]),aMK (show¬rT (xS s P)=false from by simp [h2]),aBW];by_cases h3:(i.2.2.2.2.2.2.1.any fun y=>decide (y.1=xS s P))=true
   ·rw[aMI h3,aMI h3];unfold qW;rw[uV]
   ·rw[aMK h3,aMK h3];by_cases h4:20<=i.2.2.2.2.2.2.1.length
    ·rw[aMI (show decide ((20:Int)<=(i.2.2.2.2.2.2.1.length:Int))=true from by simp;omega),aMI h4];unfold qW;rw[uV]
    ·rw[aMK (show¬decide ((20:Int)<=(i.2.2.2.2.2.2.1.length:Int))=true from by simp;omega),aMK h4,A2 hsm hQ (by decide) (by decide),aMH];by_cases h5:kS s (nS s P)=1
     ·rw[u6 (by simpa using h5),aMK (show¬kS s (nS s P)≠1 from by simpa using h5)];dsimp only;rw[aB2 _ _ _ hfit,aMH]
     ·rw[vA (by simpa using h5),aMI h5];dsimp only;rw[aB2 _ _ _ hfit,aMH]
  ·have h2':rT (xS s P)=false:=by simpa using h2
   rw[aMI (by simp [h2']),aMI h2'];unfold qW;rw[uV]
 ·rw[vA (by simpa using h1),aMI h1];dsimp only;rw[aMI (show (!decide ((3:Int)=0))=true from by decide)]
def xJ (l:List (List UInt8)) (x:List UInt8):Nat:=(l.findIdx? fun y=> !Op.bytesLess y x).getD l.length
def DY (l:List (List UInt8)) (x:List UInt8):List (List UInt8):=l.take (xJ l x)++[x]++l.drop (xJ l x)
omit hsm hP in
theorem aIZ (l:List (List UInt8)) (x:List UInt8):xJ l x<=l.length:=by
 unfold xJ;cases h:l.findIdx? fun y=> !Op.bytesLess y x with
 |none=>exact aM2 _
 |some k=>exact Nat.le_of_lt (aNl.1 h).1
def DZ (s:List UInt8) (P:Nat) (bad:Int) (fl:List (List UInt8)):Int×Int×Int×List (List UInt8):=
 if kS s P≠2 then((P:Int),(fS s P:Int),3,fl)
 else if rT (xS s P)=false then((nS s P:Int),(fS s P:Int),3,fl)
 else if (fl.any fun y=>decide (y=xS s P))=true then((nS s P:Int),(fS s P:Int),9,fl)
 else if 20<=fl.length then((nS s P:Int),(fS s P:Int),6,fl)
 else((nS s P:Int),bad,0,DY fl (xS s P))
theorem aI0 {i:qT}(hl:i.2.2.2.2.1.length<=1000):SM (s,((P:Int),(bad,(0,(c,(ends,())))))) i=some (DZ s P bad i.2.2.2.2.1):=by
 have hfit:pQ i.2.2.2.2.1:=by unfold pQ;omega
 unfold SM DZ;rw[A2 hsm hP (by decide) (by decide),aMH];by_cases h1:kS s P=2
 ·rw[u6 (by simpa using h1),aMK (show¬kS s P≠2 from by simpa using h1)];dsimp only;rw[aMK (show¬(!decide ((0:Int)=0))=true from by decide),aBR _ (GV hsm hP),aMH];by_cases h2:rT (xS s P)=true
  ·rw[aMK (show¬(!rT (xS s P))=true from by simp [h2]),aMK (show¬rT (xS s P)=false from by simp [h2]),aHL _ _ hfit,aMH];by_cases h3:(i.2.2.2.2.1.any fun y=>decide (y=xS s P))=true
   ·rw[aMI h3,aMI h3];unfold qW;rw[uV]
   ·rw[aMK h3,aMK h3];by_cases h4:20<=i.2.2.2.2.1.length
    ·rw[aMI (show decide ((20:Int)<=(i.2.2.2.2.1.length:Int))=true from by simp;omega),aMI h4];unfold qW;rw[uV]
    ·rw[aMK (show¬decide ((20:Int)<=(i.2.2.2.2.1.length:Int))=true from by simp;omega),aMK h4];have hk:=aIZ i.2.2.2.2.1 (xS s P);have h2:=aB1 (f:=SL i ((nS s P:Int),bad,0,kR (kS s P),xS s P,(fS s P:Int),(nS s P:Int))) (l:=i.2.2.2.2.1) (fun y=>Op.bytesLess y (xS s P)) (fun j h=>by
      unfold SL;rw[aMI (fun _=>rX h),y3 (t:= .str) h,uF h,Bool.true_and,aMI (sR (by omega))]) (by
      unfold SL;have hF:decide ((i.2.2.2.2.1.length:Int)<(i.2.2.2.2.1.length:Int))=false:=by simp
      rw[hF,aMI (fun h=>by simp at h),aOA,aMK (by decide)])
     have hins:(i.2.2.2.2.1.findIdx? fun y=> !Op.bytesLess y (xS s P)).getD i.2.2.2.2.1.length=xJ i.2.2.2.2.1 (xS s P):=rfl;rw[hins] at h2;rw[h2];unfold rE;rw[aMH,aMI ⟨aNy _,by omega,by omega⟩,SY,DT,aMI (by simp;omega),aMI (by simp;omega),aMI ⟨by omega,by omega,aNy _⟩,aMI (by simp;omega)];simp [DY]
  ·have h2':rT (xS s P)=false:=by simpa using h2
   rw[aMI (by simp [h2']),aMI h2'];unfold qW;rw[uV]
 ·rw[vA (by simpa using h1),aMI h1];dsimp only;rw[aMI (show (!decide ((3:Int)=0))=true from by decide)]
end
abbrev w5:List UInt8:=[99,111,109,109,101,110,116]
abbrev xK:List UInt8:=[102,105,101,108,100]
abbrev BK:List UInt8:=[102,108,97,103]
abbrev sN:List UInt8:=[115,111,117,114,99,101]
abbrev sO:List UInt8:=[116,97,114,103,101,116]
abbrev sX:List UInt8:=[115,116,97,116,101]
theorem IW {x w:List UInt8}(h:x=w):decide (x=w)=true:=aNK h
theorem wX {x w:List UInt8}(h:x≠w): ¬decide (x=w)=true:=by simp [h]
section
variable {s:List UInt8}(hsm:s.length<=4000000000) {P:Nat}(hP:P<=s.length) {c:C4}{bad f t:Int}{ends:List Int}{k:Int}{x:List UInt8}
 {i1 sr tg:List UInt8}{cm fg:List (List UInt8)}{st:Int}{fd:List rC}{d1 d2 d3 hd:Bool}
include hsm hP
theorem a4P (hx:x=w5) (h20:20<=cm.length):zS (s,((P:Int),(bad,(0,(c,(ends,())))))) (i1,(sr,(tg,(cm,(fg,(st,(fd,()))))))) (d1,(d2,(d3,()))) (k,(x,(f,(t,())))) hd=
  some ((P:Int),f,6,sr,tg,cm,fg,st,fd,d1,d2,d3):=by
 unfold zS;dsimp only;rw[aMI (IW hx),aMI (show decide ((20:Int)<=(cm.length:Int))=true from by simp;omega)];unfold qW;rw[uV]
theorem TF (hx:x=w5) (h20: ¬20<=cm.length):zS (s,((P:Int),(bad,(0,(c,(ends,())))))) (i1,(sr,(tg,(cm,(fg,(st,(fd,()))))))) (d1,(d2,(d3,()))) (k,(x,(f,(t,())))) hd=
  some (if kS s P=1 then((nS s P:Int),bad,0,sr,tg,cm++[xS s P],fg,st,fd,d1,d2,d3) else((P:Int),(fS s P:Int),3,sr,tg,cm++[xS s P],fg,st,fd,d1,d2,d3)):=by
 unfold zS;dsimp only;rw[aMI (IW hx),aMK (show¬decide ((20:Int)<=(cm.length:Int))=true from by simp;omega)];rw[A2 hsm hP (by decide) (by decide),aMH,aMI (by simp;omega),aMI (by simp;omega)];by_cases h1:kS s P=1
 ·rw[u6 (by simpa using h1),aMI h1];rfl
 ·rw[vA (by simpa using h1),aMK h1];rfl
theorem TG (hx:x=xK) (hl:fd.length<=1000):zS (s,((P:Int),(bad,(0,(c,(ends,())))))) (i1,(sr,(tg,(cm,(fg,(st,(fd,()))))))) (d1,(d2,(d3,()))) (k,(x,(f,(t,())))) hd=
  some ((DX s P bad fd).1,(DX s P bad fd).2.1,(DX s P bad fd).2.2.1,sr,tg,cm,fg,st,(DX s P bad fd).2.2.2,d1,d2,d3):=by
 unfold zS;dsimp only;rw[aMK (wX (by rw[hx];decide)),aMI (IW hx),aIY hsm hP (i:=(i1,(sr,(tg,(cm,(fg,(st,(fd,())))))))) hl,aMH]
theorem a4Q (h1:x≠w5) (h2:x≠xK):zS (s,((P:Int),(bad,(0,(c,(ends,())))))) (i1,(sr,(tg,(cm,(fg,(st,(fd,()))))))) (d1,(d2,(d3,()))) (k,(x,(f,(t,())))) true=
  some ((P:Int),f,3,sr,tg,cm,fg,st,fd,d1,d2,d3):=by
 unfold zS;dsimp only;rw[aMK (wX h1),aMK (wX h2),aMI rfl];unfold qW;rw[uV]
theorem TH (hx:x=BK) (hl:fg.length<=1000):zS (s,((P:Int),(bad,(0,(c,(ends,())))))) (i1,(sr,(tg,(cm,(fg,(st,(fd,()))))))) (d1,(d2,(d3,()))) (k,(x,(f,(t,())))) false=
  some ((DZ s P bad fg).1,(DZ s P bad fg).2.1,(DZ s P bad fg).2.2.1,sr,tg,cm,(DZ s P bad fg).2.2.2,st,fd,d1,d2,d3):=by
 unfold zS;dsimp only;rw[aMK (wX (by rw[hx];decide)),aMK (wX (by rw[hx];decide)),aMK aOK,aMI (IW hx),aI0 hsm hP (i:=(i1,(sr,(tg,(cm,(fg,(st,(fd,())))))))) hl,aMH]
theorem aI1:(if (decide (x=sN)&&d1)=true then some (decide (x=sN)&&d1) else if (decide (x=sO)&&d2)=true then some (decide (x=sO)&&d2) else some (decide (x=sX)&&d3))=some ((decide (x=sN)&&d1)||(decide (x=sO)&&d2)||(decide (x=sX)&&d3)):=by
 cases(decide (x=sN)&&d1)<;>cases(decide (x=sO)&&d2)<;>rfl
theorem FJ (h1:x≠w5) (h2:x≠xK) (h3:x≠BK):zS (s,((P:Int),(bad,(0,(c,(ends,())))))) (i1,(sr,(tg,(cm,(fg,(st,(fd,()))))))) (d1,(d2,(d3,()))) (k,(x,(f,(t,())))) false=
  some (if ((decide (x=sN)&&d1)||(decide (x=sO)&&d2)||(decide (x=sX)&&d3))=true then((P:Int),f,9,sr,tg,cm,fg,st,fd,d1,d2,d3)
   else if x=sN then(if kS s P=1 then((nS s P:Int),bad,0,xS s P,tg,cm,fg,st,fd,true,d2,d3) else((P:Int),(fS s P:Int),3,xS s P,tg,cm,fg,st,fd,true,d2,d3))
   else if x=sO then(if kS s P=1 then((nS s P:Int),bad,0,sr,xS s P,cm,fg,st,fd,d1,true,d3) else((P:Int),(fS s P:Int),3,sr,xS s P,cm,fg,st,fd,d1,true,d3))
   else if x=sX then(if kS s P=2 then(if sS (xS s P)<0 then((nS s P:Int),(fS s P:Int),3,sr,tg,cm,fg,sS (xS s P),fd,d1,d2,true) else((nS s P:Int),bad,0,sr,tg,cm,fg,sS (xS s P),fd,d1,d2,true)) else((P:Int),(fS s P:Int),3,sr,tg,cm,fg,sS (xS s P),fd,d1,d2,true))
   else((P:Int),f,3,sr,tg,cm,fg,st,fd,d1,d2,d3)):=by
 unfold zS;dsimp only;rw[aMK (wX h1),aMK (wX h2),aMK aOK,aMK (wX h3)];unfold rE;rw[show (if (decide (x=([115,111,117,114,99,101]:List UInt8))&&d1)=true then some (decide (x=([115,111,117,114,99,101]:List UInt8))&&d1) else if (decide (x=([116,97,114,103,101,116]:List UInt8))&&d2)=true then some (decide (x=([116,97,114,103,101,116]:List UInt8))&&d2) else some (decide (x=([115,116,97,116,101]:List UInt8))&&d3))=some ((decide (x=sN)&&d1)||(decide (x=sO)&&d2)||(decide (x=sX)&&d3)) from aI1 hsm hP,aMH]
 by_cases hd:((decide (x=sN)&&d1)||(decide (x=sO)&&d2)||(decide (x=sX)&&d3))=true
 ·rw[aMI hd,aMI hd];unfold qW;rw[uV]
 ·rw[aMK hd,aMK hd];by_cases hs:x=sN
  ·rw[aMI (IW hs),aMI hs,A2 hsm hP (by decide) (by decide),aMH];by_cases h1:kS s P=1
   ·rw[u6 (by simpa using h1),aMI h1]
   ·rw[vA (by simpa using h1),aMK h1]
  ·rw[aMK (wX hs),aMK hs];by_cases ht:x=sO
   ·rw[aMI (IW ht),aMI ht,A2 hsm hP (by decide) (by decide),aMH];by_cases h1:kS s P=1
    ·rw[u6 (by simpa using h1),aMI h1]
    ·rw[vA (by simpa using h1),aMK h1]
   ·rw[aMK (wX ht),aMK ht];by_cases ha:x=sX
    ·rw[aMI (IW ha),aMI ha,A2 hsm hP (by decide) (by decide),aMH];by_cases h1:kS s P=2
     ·rw[u6 (by simpa using h1),aMI h1];dsimp only;rw[aBV,aMI uH];by_cases h6:sS (xS s P)<0
      ·rw[aMI (show (decide ((0:Int)=0)&&decide (val (some (sS (xS s P)))<0))=true from aNK (p:=sS (xS s P)<0) h6),aMI h6];unfold qW;rw[uV];rfl
      ·rw[aMK (show¬(decide ((0:Int)=0)&&decide (val (some (sS (xS s P)))<0))=true from fun h=>h6 (aNq (p:=sS (xS s P)<0) h)),aMK h6];rfl
     ·rw[vA (by simpa using h1),aMK h1];dsimp only;rw[aBV,aMI uH,aMK (show¬(decide ((3:Int)=0)&&decide (val (some (sS (xS s P)))<0))=true from by simp)];rfl
    ·rw[aMK (wX ha),aMK ha];unfold qW;rw[uV]
end
section
variable {a b c:List UInt8}{d g:List (List UInt8)}{e:Int×(List rC×Unit)}{en:Bool}{m:List (List UInt8×Bool)}
theorem TJ:w9 .str .fn (vZ a b c d e en g m) w5=true/\rM .str .fn (vZ a b c d e en g m) w5=some 213:=by
 cases en<;>exact⟨rfl,rfl⟩
theorem aCD:w9 .str .fn (vZ a b c d e en g m) xK=true/\rM .str .fn (vZ a b c d e en g m) xK=some 214:=by
 cases en<;>exact⟨rfl,rfl⟩
theorem aCE:w9 .str .fn (vZ a b c d e true g m) sN=true/\rM .str .fn (vZ a b c d e true g m) sN=some 215:=⟨rfl,rfl⟩
theorem aCF:w9 .str .fn (vZ a b c d e true g m) sO=true/\rM .str .fn (vZ a b c d e true g m) sO=some 216:=⟨rfl,rfl⟩
theorem aCG:w9 .str .fn (vZ a b c d e true g m) sX=true/\rM .str .fn (vZ a b c d e true g m) sX=some 217:=⟨rfl,rfl⟩
theorem aCH:w9 .str .fn (vZ a b c d e true g m) BK=true/\rM .str .fn (vZ a b c d e true g m) BK=some 218:=⟨rfl,rfl⟩
end
end Go.Proofs.YtbbpilohihldiaaGreatDoor
namespace Go.Proofs.YtbbpilohihldiaaGreatDoor
open Vc
theorem D1 {v:Ty}(a b:List UInt8) (y:v.den): ∀l:List (List UInt8×v.den),rM .str v (sI .str v a y l) b=if b=a then y else rM .str v l b
 |[]=>by
  show (if decide (b=a)=true then y else v.zero)=if b=a then y else v.zero;by_cases h:b=a<;>simp [h]
 |(x,z)::r=>by
  have ih:=D1 a b y r;show rM .str v (if decide (a=x)=true then(a,y)::r else(x,z)::sI .str v a y r) b=if b=a then y else(if decide (b=x)=true then z else rM .str v r b);by_cases h:a=x
  ·rw[aMI (aNK h)];show (if decide (b=a)=true then y else rM .str v r b)=_;by_cases hb:b=a
   ·rw[aMI (aNK hb),aMI hb]
   ·rw[aMK (by simpa using hb),aMK hb,aMK (by rw[<-h];simpa using hb)]
  ·rw[aMK (by simpa using h)];show (if decide (b=x)=true then z else rM .str v (sI .str v a y r) b)=_;rw[ih];by_cases hb:b=a
   ·rw[aMI hb,aMI hb,aMK (by rw[hb];simpa using h)]
   ·rw[aMK hb,aMK hb]
section
variable {a b c:List UInt8}{d g:List (List UInt8)}{e:Int×(List rC×Unit)}{en:Bool}{m:List (List UInt8×Bool)}{x:List UInt8}
theorem aI2 (h1:x≠w5) (h2:x≠xK):w9 .str .fn (vZ a b c d e false g m) x=false:=by
 show (if decide (x=w5)=true then true else if decide (x=xK)=true then true else false)=false;rw[aMK (wX h1),aMK (wX h2)]
theorem aI3 (h1:x≠w5) (h2:x≠xK) (h3:x≠sN) (h4:x≠sO) (h5:x≠sX) (h6:x≠BK):w9 .str .fn (vZ a b c d e true g m) x=false:=by
 show (if decide (x=w5)=true then true else if decide (x=xK)=true then true else if decide (x=sN)=true then true else if decide (x=sO)=true then true else if decide (x=sX)=true then true else if decide (x=BK)=true then true else false)=false;rw[aMK (wX h1),aMK (wX h2),aMK (wX h3),aMK (wX h4),aMK (wX h5),aMK (wX h6)]
end
abbrev GW:=Int×Int×List UInt8×Int×Int×Int×Int×Int×List UInt8×List UInt8×List (List UInt8)×Int×List rC×List (List UInt8)×List (List UInt8×Bool)
def rV (r:R8) (sr tg:List UInt8) (cm:List (List UInt8)) (st:Int) (fd:List rC) (l:List (List UInt8)) (m:List (List UInt8×Bool)):GW:=
 (r.1,r.2.1,r.2.2.1,r.2.2.2.1,r.2.2.2.2.1,r.2.2.2.2.2.1,r.2.2.2.2.2.2.1,r.2.2.2.2.2.2.2,sr,tg,cm,st,fd,l,m)
section
variable {s:List UInt8}(hsm:s.length<=4000000000) {P:Nat}(hP:P<=s.length) {c:C4}{a en0 at0:Int}{ends:List Int}{ids:List (List UInt8×Bool)}
 {sr tg:List UInt8}{cm l:List (List UInt8)}{st:Int}{fd:List rC}{m:List (List UInt8×Bool)}{hd:Bool}
include hsm hP
omit hsm hP in
theorem GX (hk:kS s P=2):(decide ((0:Int)=0)&&decide (kS s P=2))=true:=by simp [hk]
theorem aI4 (hk:kS s P=2) (hx:xS s P=w5) (hl:cm.length<=1000) (h20:cm.length≠20):v8 (s,(at0,())) c (ends,(en0,())) hd ids (rV (sV s P a) sr tg cm st fd l m)=
  some (.inl (rV (tG s (nS s (nS s P)) a (nS s (nS s P)) (kS s (nS s P)) (xS s (nS s P)) (fS s (nS s P)) (nS s (nS s P)) (nS s P) (sW (decide (kS s (nS s P)≠1)) false false)) sr tg (cm++[xS s (nS s P)]) st fd l m)):=by
 have hQ:=(rU hP).2;unfold v8 rV sV;dsimp only;rw[aMI (GX hk),hx,aMK (by rw[TJ.1];decide)];unfold qW;rw[TJ.2];dsimp only;rw[aMI rfl,aIS hsm hQ hl h20,aMH];rfl
theorem aI5 (hk:kS s P=2) (hx:xS s P=w5) (h20:cm.length=20): ∃y,v8 (s,(at0,())) c (ends,(en0,())) hd ids (rV (sV s P a) sr tg cm st fd l m)=
  some (.inl (rV ((nS s P:Int),kS s P,w5,(fS s P:Int),(nS s P:Int),(fS s P:Int),6,(P:Int)) sr tg (cm++[y]) st fd l m)):=by
 have hQ:=(rU hP).2;unfold v8 rV sV;dsimp only;rw[aMI (GX hk),hx,aMK (by rw[TJ.1];decide)];unfold qW;rw[TJ.2];dsimp only;rw[aMI rfl];obtain⟨y,hy⟩:=aIT (c:=(c.1,(c.2.1,(c.2.2.1,(c.2.2.2.1,()))))) (a:=a) (en:=(P:Int)) (at0:=(nS s P:Int)) (f:=(fS s P:Int)) (t:=(nS s P:Int)) (k:=kS s P) (x:=w5) (ends:=ends) (ids:=ids) (b9:=[]) (b10:=sr) (b11:=tg) (b12:=cm) (b18:=l) (b13:=(st,(fd,()))) (b14:=hd) (b21:=m) h20;rw[hy,aMH];exact⟨y,rfl⟩
theorem aI6 (hk:kS s P=2) (hx:xS s P=xK) (hl:fd.length<=1000): ∃v,v8 (s,(at0,())) c (ends,(en0,())) hd ids (rV (sV s P a) sr tg cm st fd l m)=
  some (.inl (rV (if (sW (decide (kS s (nS s P)≠1)|| !rT (xS s (nS s P))) (fd.any fun y=>decide (y.1=xS s (nS s P))) (decide (fd.length=20)))=0 then tG s (nS s (nS s (nS s P))) a (nS s (nS s (nS s P))) (kS s (nS s (nS s P))) (xS s (nS s (nS s P))) (fS s (nS s (nS s P))) (nS s (nS s (nS s P))) (nS s (nS s P)) (sW (decide (kS s (nS s (nS s P))≠1)) false false)
   else((nS s (nS s P):Int),kS s (nS s P),xS s (nS s P),(fS s (nS s P):Int),(nS s (nS s P):Int),(fS s (nS s P):Int),(sW (decide (kS s (nS s P)≠1)|| !rT (xS s (nS s P))) (fd.any fun y=>decide (y.1=xS s (nS s P))) (decide (fd.length=20))),((nS s P):Int))) sr tg cm st (AQ fd (xS s (nS s P)) v) l m))/\
  ((sW (decide (kS s (nS s P)≠1)|| !rT (xS s (nS s P))) (fd.any fun y=>decide (y.1=xS s (nS s P))) (decide (fd.length=20)))=0->v=xS s (nS s (nS s P))):=by
 have hQ:=(rU hP).2;unfold v8 rV sV;dsimp only;rw[aMI (GX hk),hx,aMK (by rw[aCD.1];decide)];unfold qW;rw[aCD.2];dsimp only;rw[aMK (by decide),aMI rfl];obtain⟨v,hv,h2⟩:=aIU hsm hQ (c:=(c.1,(c.2.1,(c.2.2.1,(c.2.2.2.1,()))))) (a:=a) (en:=(P:Int)) (f:=(fS s P:Int)) (k:=kS s P) (x:=xK) (ends:=ends) (ids:=ids) (b9:=[]) (b10:=sr) (b11:=tg) (b12:=cm) (b18:=l) (b13:=(st,(fd,()))) (b14:=hd) (b21:=m) hl;refine⟨v,?_,h2⟩;rw[hv,aMH];rfl
theorem aI7 (hk:kS s P=2) (hx:xS s P=sN): ∃v,v8 (s,(at0,())) c (ends,(en0,())) true ids (rV (sV s P a) sr tg cm st fd l m)=
  some (.inl (rV (if rM .str .bool m sN=true then(((nS s P):Int),kS s P,sN,(fS s P:Int),((nS s P):Int),(fS s P:Int),9,(P:Int)) else tG s (nS s (nS s P)) a (nS s (nS s P)) (kS s (nS s P)) (xS s (nS s P)) (fS s (nS s P)) (nS s (nS s P)) (nS s P) (sW (decide (kS s (nS s P)≠1)) false false)) v tg cm st fd l (sI .str .bool sN true m)))/\
  (¬rM .str .bool m sN=true->v=xS s (nS s P)):=by
 have hQ:=(rU hP).2;unfold v8 rV sV;dsimp only;rw[aMI (GX hk),hx,aMK (by rw[aCE.1];decide)];unfold qW;rw[aCE.2];dsimp only;rw[aMK (by decide),aMK (by decide),aMI rfl];obtain⟨v,hv,h2⟩:=aIV hsm hQ (c:=(c.1,(c.2.1,(c.2.2.1,(c.2.2.2.1,()))))) (a:=a) (en:=(P:Int)) (f:=(fS s P:Int)) (k:=kS s P) (x:=sN) (ends:=ends) (ids:=ids) (b9:=[]) (b10:=sr) (b11:=tg) (b12:=cm) (b18:=l) (b13:=(st,(fd,()))) (b14:=true) (b21:=m);refine⟨v,?_,h2⟩;rw[hv,aMH];rfl
theorem aI8 (hk:kS s P=2) (hx:xS s P=sO): ∃v,v8 (s,(at0,())) c (ends,(en0,())) true ids (rV (sV s P a) sr tg cm st fd l m)=
  some (.inl (rV (if rM .str .bool m sO=true then(((nS s P):Int),kS s P,sO,(fS s P:Int),((nS s P):Int),(fS s P:Int),9,(P:Int)) else tG s (nS s (nS s P)) a (nS s (nS s P)) (kS s (nS s P)) (xS s (nS s P)) (fS s (nS s P)) (nS s (nS s P)) (nS s P) (sW (decide (kS s (nS s P)≠1)) false false)) sr v cm st fd l (sI .str .bool sO true m)))/\
  (¬rM .str .bool m sO=true->v=xS s (nS s P)):=by
 have hQ:=(rU hP).2;unfold v8 rV sV;dsimp only;rw[aMI (GX hk),hx,aMK (by rw[aCF.1];decide)];unfold qW;rw[aCF.2];dsimp only;rw[aMK (by decide),aMK (by decide),aMK (by decide),aMI rfl];obtain⟨v,hv,h2⟩:=aIW hsm hQ (c:=(c.1,(c.2.1,(c.2.2.1,(c.2.2.2.1,()))))) (a:=a) (en:=(P:Int)) (f:=(fS s P:Int)) (k:=kS s P) (x:=sO) (ends:=ends) (ids:=ids) (b9:=[]) (b10:=sr) (b11:=tg) (b12:=cm) (b18:=l) (b13:=(st,(fd,()))) (b14:=true) (b21:=m);refine⟨v,?_,h2⟩;rw[hv,aMH];rfl
theorem aI9 (hk:kS s P=2) (hx:xS s P=sX): ∃v,v8 (s,(at0,())) c (ends,(en0,())) true ids (rV (sV s P a) sr tg cm st fd l m)=
  some (.inl (rV (if rM .str .bool m sX=true then(((nS s P):Int),kS s P,sX,(fS s P:Int),((nS s P):Int),(fS s P:Int),9,(P:Int)) else tG s (nS s (nS s P)) a (nS s (nS s P)) (kS s (nS s P)) (xS s (nS s P)) (fS s (nS s P)) (nS s (nS s P)) (nS s P) (sW (decide (kS s (nS s P)≠2)|| !decide (0<=sS (xS s (nS s P)))) false false)) sr tg cm v fd l (sI .str .bool sX true m)))/\
  (¬rM .str .bool m sX=true->v=max 0 (sS (xS s (nS s P)))):=by
 have hQ:=(rU hP).2;unfold v8 rV sV;dsimp only;rw[aMI (GX hk),hx,aMK (by rw[aCG.1];decide)];unfold qW;rw[aCG.2];dsimp only;rw[aMK (by decide),aMK (by decide),aMK (by decide),aMK (by decide),aMI rfl];obtain⟨v,hv,h2⟩:=aIX hsm hQ (c:=(c.1,(c.2.1,(c.2.2.1,(c.2.2.2.1,()))))) (a:=a) (en:=(P:Int)) (f:=(fS s P:Int)) (k:=kS s P) (x:=sX) (ends:=ends) (ids:=ids) (b9:=[]) (b10:=sr) (b11:=tg) (b12:=cm) (b18:=l) (b13:=(st,(fd,()))) (b14:=true) (b21:=m);refine⟨v,?_,h2⟩;rw[hv,aMH];rfl
theorem aJa (hk:kS s P=2) (hx:xS s P=BK) (hl:l.length<=1000):v8 (s,(at0,())) c (ends,(en0,())) true ids (rV (sV s P a) sr tg cm st fd l m)=
  some (.inl (rV (tG s (nS s (nS s P)) a (nS s (nS s P)) (kS s (nS s P)) (xS s (nS s P)) (fS s (nS s P)) (nS s (nS s P)) (nS s P) (sW (decide (kS s (nS s P)≠2)|| !rT (xS s (nS s P))) (l.any fun y=>decide (y=xS s (nS s P))) (decide (l.length=20)))) sr tg cm st fd (l++[xS s (nS s P)]) m)):=by
 have hQ:=(rU hP).2;unfold v8 rV sV;dsimp only;rw[aMI (GX hk),hx,aMK (by rw[aCH.1];decide)];unfold qW;rw[aCH.2];dsimp only;rw[aMK (by decide),aMK (by decide),aMK (by decide),aMK (by decide),aMK (by decide),aMI rfl];rw[QF hsm hQ hl,aMH];rfl
theorem aCI (hk:kS s P=2) (hx: ∀b c' d e g m',w9 .str .fn (vZ [] b c' d e hd g m') (xS s P)=false):v8 (s,(at0,())) c (ends,(en0,())) hd ids (rV (sV s P a) sr tg cm st fd l m)=
  some (.inr (rV ((nS s P:Int),kS s P,xS s P,(fS s P:Int),(nS s P:Int),(fS s P:Int),3,(P:Int)) sr tg cm st fd l m)):=by
 unfold v8 rV sV;dsimp only;rw[aMI (GX hk),aMI (by rw[hx];rfl)];unfold qW;rw[TA]
theorem aJb (hk:kS s P≠2):v8 (s,(at0,())) c (ends,(en0,())) hd ids (rV (sV s P a) sr tg cm st fd l m)=
  some (.inr (rV (sV s P a) sr tg cm st fd l m)):=by
 unfold v8 rV sV;dsimp only;rw[aMK (by simp [hk])]
omit hsm hP in
theorem a4R {r:R8}(he:r.2.2.2.2.2.2.1≠0):v8 (s,(at0,())) c (ends,(en0,())) hd ids (rV r sr tg cm st fd l m)=
  some (.inr (rV r sr tg cm st fd l m)):=by
 unfold v8 rV;dsimp only;rw[aMK (by simp [he])]
end
theorem D2: ∀(x y:List UInt8),Op.bytesLess x y=decide (x<y)
 |[],[]=>by simp [Op.bytesLess]
 |_::_,[]=>by simp [Op.bytesLess]
 |[],_::_=>by simp [Op.bytesLess]
 |a::x,b::y=>by
  rw[Op.bytesLess,D2 x y];simp only[List.cons_lt_cons_iff];by_cases h1:a<b<;>by_cases h2:a=b<;>by_cases h3:x<y<;>simp [h1,h2,h3]
theorem aCJ (l:List (List UInt8)):(vF l).Pairwise (·<=·):=by
 have:=List.pairwise_mergeSort (le:=fun x y:List UInt8=>decide (x<=y)) (fun a b c h1 h2=>aNK (List.le_trans (aNq h1) (aNq h2))) (fun a b=>by simpa using List.le_total a b) l;exact this.imp (fun h=>aNq h)
theorem TK (l:List (List UInt8)):(vF l).Perm l:=List.mergeSort_perm l _
theorem a4S (l:List (List UInt8)):(vF l).length=l.length:=(TK l).length_eq
theorem aJc (l:List (List UInt8)) (p:List UInt8->Bool):(vF l).any p=l.any p:=(TK l).any_eq
theorem aJd (l:List (List UInt8)) (x:List UInt8):(DY l x).Perm (l++[x]):=by
 unfold DY;have h:(l.take (xJ l x)++l.drop (xJ l x))=l:=aNO _ _;have h2:(l.take (xJ l x)++[x]++l.drop (xJ l x)).Perm (l.take (xJ l x)++(l.drop (xJ l x)++[x])):=by
  rw[aMU];exact List.Perm.append_left _ List.perm_append_comm
 have h3:l.take (xJ l x)++(l.drop (xJ l x)++[x])=l++[x]:=by rw[<-aMU,h]
 rw[h3] at h2;exact h2
theorem aJe {l:List (List UInt8)}(x:List UInt8) (h:l.Pairwise (·<=·)):(DY l x).Pairwise (·<=·):=by
 have ht: ∀y∈l.take (xJ l x),y<=x:=by
  intro y hy;obtain⟨j,hj,rfl⟩:=List.mem_iff_getElem.1 hy;rw[aM5] at hj;rw[List.getElem_take];have:Op.bytesLess l[j] x=true:=by
   have hk:xJ l x=(l.findIdx? fun y=> !Op.bytesLess y x).getD l.length:=rfl;cases hf:l.findIdx? fun y=> !Op.bytesLess y x with
   |none=>
    have:=aOz.1 hf l[j] (aNR _);simpa using this
   |some n=>
    rw[hf] at hk;have:=(aNl.1 hf).2.2 j (by rw[hk] at hj;simp only[aN1] at hj;omega);simpa using this
  rw[D2] at this;exact List.le_of_lt (aNq this)
 have hd: ∀y∈l.drop (xJ l x),x<=y:=by
  intro y hy;have hk:xJ l x=(l.findIdx? fun y=> !Op.bytesLess y x).getD l.length:=rfl;cases hf:l.findIdx? fun y=> !Op.bytesLess y x with
  |none=>
   rw[hf] at hk;rw[hk] at hy;simp at hy
  |some n=>
   rw[hf] at hk;obtain⟨hn,h1,h2⟩:=aNl.1 hf;have hx:x<=l[n]:=by
    rw[D2] at h1;simp only[aNh,aNr] at h1;exact List.not_lt.1 h1
   rw[hk] at hy;simp only[aN1] at hy;rw[aM8 hn] at hy;rcases aM1.1 hy with rfl|hy
   ·exact hx
   ·have hp:(l.drop n).Pairwise (·<=·):=h.sublist (List.drop_sublist _ _);rw[aM8 hn] at hp;exact List.le_trans hx ((aOr.1 hp).1 y hy)
 unfold DY;rw[aMU];refine aOj.2 ⟨h.sublist (List.take_sublist _ _),aOj.2 ⟨aOl _ _,h.sublist (List.drop_sublist _ _),?_⟩,?_⟩
 ·intro a ha b hb;rw[aMW.1 ha];exact hd b hb
 ·intro a ha b hb;have hax:=ht a ha;rcases aNE.1 hb with hb|hb
  ·rw[aMW.1 hb];exact hax
  ·exact List.le_trans hax (hd b hb)
theorem aJf (l:List (List UInt8)) (x:List UInt8):DY (vF l) x=vF (l++[x]):=
 List.Perm.eq_of_pairwise (fun _ _ _ _ h1 h2=>List.le_antisymm h1 h2) (aJe x (aCJ l)) (aCJ _)
  ((aJd _ _).trans (((TK l).append_right _).trans (TK _).symm))
theorem aJg {b:UInt8}{t:List UInt8}(h:A0 b.toNat=true):0<uU (b::t):=by
 unfold uU;have hw:AS b=true:=by
  unfold AS a4K;simp [h]
 rw[aND,aMK (by simp [hw])];cases t.findIdx? fun b=> !AS b with
 |none=>simp
 |some n=>simp
theorem aCK {l:List UInt8}(h0:(sL l).1≠0) (h4:(sL l).1≠4):0<(sL l).2.2:=by
 cases l with
 |nil=>exact absurd rfl h4
 |cons b t=>
  by_cases h1:b=123\/b=125
  ·rw[DW h1];exact Nat.one_pos
  ·by_cases h2:b=34
   ·rw[C3 h1 h2] at h0⊢;unfold vH at*;cases he:s8 34 t with
    |none=>rw[he] at h0;exact absurd rfl h0
    |some n=>
     rw[he] at h0;dsimp only at*;split
     ·rename_i hh;rw[aMI hh] at h0;exact absurd rfl h0
     ·exact Nat.succ_pos _
   ·by_cases h3:A0 b.toNat=true
    ·rw[C5 h1 h2 h3];exact aJg h3
    ·rw[GT h1 h2 h3] at h0;exact absurd rfl h0
theorem uW {s:List UInt8}{P:Nat}(h0:kS s P≠0) (h4:kS s P≠4):P<nS s P:=by
 unfold kS at*;unfold nS;unfold rY at*;split
 ·rename_i hg;rw[aMI hg] at h0 h4;have:=aCK h0 h4;dsimp only;omega
 ·rename_i hg;rw[aMK hg] at h0;exact absurd rfl h0
abbrev FK:=Int×Int×Int×List UInt8×List UInt8×List (List UInt8)×List (List UInt8)×Int×List rC×Bool×Bool×Bool
section
variable {s:List UInt8}(hsm:s.length<=4000000000) {P:Nat}(hP:P<=s.length) {c:C4}{bad bad0 at0 e0:Int}{ends:List Int}
 {i1 sr tg:List UInt8}{cm fg:List (List UInt8)}{st:Int}{fd:List rC}{i:qT}{d1 d2 d3 hd:Bool}
include hsm hP
theorem D3 (hk:kS s P=2):w4 (s,(at0,(bad0,(e0,(c,(ends,())))))) i hd ((P:Int),bad,0,sr,tg,cm,fg,st,fd,d1,d2,d3)=
  (zS (s,((nS s P:Int),(bad,(0,(c,(ends,())))))) (i.1,(sr,(tg,(cm,(fg,(st,(fd,()))))))) (d1,(d2,(d3,()))) (2,(xS s P,((fS s P:Int),((nS s P:Int),())))) hd).bind fun r=>
   some (.inl (r.1,r.2.1,r.2.2.1,r.2.2.2.1,r.2.2.2.2.1,r.2.2.2.2.2.1,r.2.2.2.2.2.2.1,r.2.2.2.2.2.2.2.1,r.2.2.2.2.2.2.2.2.1,r.2.2.2.2.2.2.2.2.2.1,r.2.2.2.2.2.2.2.2.2.2.1,r.2.2.2.2.2.2.2.2.2.2.2)):=by
 have hkR:kR (kS s P)=2:=(yF (by decide) (by decide)).2 hk;unfold w4;dsimp only;rw[aMI (show decide ((0:Int)=0)=true from rfl),OI hsm hP,aMH];dsimp only;rw[hkR,aMK (show¬(decide ((2:Int)=3)&&decide (xS s P=[125]))=true from by simp),aMK (show¬(!decide ((2:Int)=2))=true from by simp)]
theorem TL (hk:kS s P=3) (hx:xS s P=[125]) (he:ends.length<=5000):w4 (s,(at0,(bad0,(e0,(c,(ends,())))))) i hd ((P:Int),bad,0,sr,tg,cm,fg,st,fd,d1,d2,d3)=
  some (.inr (.inr ((nS s P:Int),bad,0,ends++[(nS s P:Int)],sr,tg,cm,fg,st,fd))):=by
 have hkR:kR (kS s P)=3:=(yF (by decide) (by decide)).2 hk;unfold w4;dsimp only;rw[aMI (show decide ((0:Int)=0)=true from rfl),OI hsm hP,aMH];dsimp only;rw[hkR,aMI (show (decide ((3:Int)=3)&&decide (xS s P=[125]))=true from by simp [hx]),aMI (by simp;omega),aMI (by simp;omega)];rfl
theorem a4T (hk:kS s P≠2) (hx: ¬(kS s P=3/\xS s P=[125])):w4 (s,(at0,(bad0,(e0,(c,(ends,())))))) i hd ((P:Int),bad,0,sr,tg,cm,fg,st,fd,d1,d2,d3)=
  some (.inr (.inr ((P:Int),(fS s P:Int),3,ends,sr,tg,cm,fg,st,fd))):=by
 have hk2:kR (kS s P)≠2:=fun h=>hk ((yF (by decide) (by decide)).1 h);have hk3: ¬(kR (kS s P)=3/\xS s P=[125]):=fun h=>hx ⟨(yF (by decide) (by decide)).1 h.1,h.2⟩;unfold w4;dsimp only;rw[aMI (show decide ((0:Int)=0)=true from rfl),OI hsm hP,aMH];dsimp only;rw[aMK (show¬(decide (kR (kS s P)=3)&&decide (xS s P=[125]))=true from by simpa using hk3),aMI (show (!decide (kR (kS s P)=2))=true from by simpa using hk2)];unfold qW;rw[uV]
omit hsm hP in
theorem IX {e p:Int}(he:e≠0):w4 (s,(at0,(bad0,(e0,(c,(ends,())))))) i hd (p,bad,e,sr,tg,cm,fg,st,fd,d1,d2,d3)=
  some (.inr (.inl (p,bad,e,sr,tg,cm,fg,st,fd))):=by
 unfold w4;dsimp only;rw[aMK (show¬decide (e=0)=true from by simpa using he)]
def s3 (s:List UInt8) (P:Nat) (a bad:Int) (ps:GW⊕GW) (rs:FK):Prop:=
 ∃(P':Nat) (sr tg:List UInt8) (cm:List (List UInt8)) (st:Int) (fd:List rC) (l:List (List UInt8)) (m:List (List UInt8×Bool)),
  P<P'/\P'<=s.length/\ps= .inl (rV (sV s P' a) sr tg cm st fd l m)/\rs=((P':Int),bad,0,sr,tg,cm,vF l,st,fd,rM .str .bool m sN,rM .str .bool m sO,rM .str .bool m sX)/\
  cm.length<=20/\fd.length<=20/\l.length<=20
def Bad (ps:GW⊕GW) (rs:FK):Prop:=
 ∃(r:R8) (sr tg:List UInt8) (cm:List (List UInt8)) (st:Int) (fd:List rC) (l:List (List UInt8)) (m:List (List UInt8×Bool)),
  r.2.2.2.2.2.2.1≠0/\(ps= .inl (rV r sr tg cm st fd l m)\/ps= .inr (rV r sr tg cm st fd l m))/\l.length<=21/\rs.2.1=r.2.2.2.2.2.1/\rs.2.2.1=r.2.2.2.2.2.2.1
end
theorem aJh (d1 d2 d3:Bool):((decide (sN=sN)&&d1)||(decide (sN=sO)&&d2)||(decide (sN=sX)&&d3))=d1:=by cases d1<;>cases d2<;>cases d3<;>rfl
theorem aJi (d1 d2 d3:Bool):((decide (sO=sN)&&d1)||(decide (sO=sO)&&d2)||(decide (sO=sX)&&d3))=d2:=by cases d1<;>cases d2<;>cases d3<;>rfl
theorem aJj (d1 d2 d3:Bool):((decide (sX=sN)&&d1)||(decide (sX=sO)&&d2)||(decide (sX=sX)&&d3))=d3:=by cases d1<;>cases d2<;>cases d3<;>rfl
theorem C7 {s:List UInt8}{P:Nat}{a at0 k:Int}{x:List UInt8}{f t en code:Int}(h:code=0):tG s P a at0 k x f t en code=sV s P a:=aMI h
theorem wF {s:List UInt8}{P:Nat}{a at0 k:Int}{x:List UInt8}{f t en code:Int}(h:code≠0):tG s P a at0 k x f t en code=(at0,k,x,f,t,f,code,en):=aMK h
theorem xL {r:R8}{sr tg:List UInt8}{cm:List (List UInt8)}{st:Int}{fd:List rC}{l:List (List UInt8)}{m:List (List UInt8×Bool)}{rs:FK}{f e:Int}
  (h1:r.2.2.2.2.2.1=f) (h2:r.2.2.2.2.2.2.1=e) (he:e≠0) (hl:l.length<=21) (h3:rs.2.1=f) (h4:rs.2.2.1=e):Bad (.inl (rV r sr tg cm st fd l m)) rs:=
 ⟨r,sr,tg,cm,st,fd,l,m,by rw[h2];exact he,.inl rfl,hl,h3.trans h1.symm,h4.trans h2.symm⟩
theorem aCL {r:R8}{sr tg:List UInt8}{cm:List (List UInt8)}{st:Int}{fd:List rC}{l:List (List UInt8)}{m:List (List UInt8×Bool)}{rs:FK}{f e:Int}
  (h1:r.2.2.2.2.2.1=f) (h2:r.2.2.2.2.2.2.1=e) (he:e≠0) (hl:l.length<=21) (h3:rs.2.1=f) (h4:rs.2.2.1=e):Bad (.inr (rV r sr tg cm st fd l m)) rs:=
 ⟨r,sr,tg,cm,st,fd,l,m,by rw[h2];exact he,.inr rfl,hl,h3.trans h1.symm,h4.trans h2.symm⟩
section
variable {s:List UInt8}(hsm:s.length<=4000000000) {P:Nat}(hP:P<=s.length) {c c2:C4}{a en0 at0 at1 bad bad0 e0:Int}{ends ends2:List Int}{ids:List (List UInt8×Bool)}
 {sr tg:List UInt8}{cm l:List (List UInt8)}{st:Int}{fd:List rC}{m:List (List UInt8×Bool)}{hd:Bool}{i:qT}
include hsm hP
def yH (s:List UInt8) (P:Nat) (c c2:C4) (a en0 at0 at1 bad bad0 e0:Int) (ends ends2:List Int) (ids:List (List UInt8×Bool)) (sr tg:List UInt8) (cm l:List (List UInt8)) (st:Int) (fd:List rC) (m:List (List UInt8×Bool)) (hd:Bool) (i:qT):Prop:=
 ∃ps rs,v8 (s,(at0,())) c (ends,(en0,())) hd ids (rV (sV s P a) sr tg cm st fd l m)=some ps/\
  w4 (s,(at1,(bad0,(e0,(c2,(ends2,())))))) i (!hd) ((P:Int),bad,0,sr,tg,cm,vF l,st,fd,rM .str .bool m sN,rM .str .bool m sO,rM .str .bool m sX)=some (.inl rs)/\
  (s3 s P a bad ps rs\/Bad ps rs)
theorem aJk (hk:kS s P=2) (hx:xS s P=w5) (h1:cm.length<=20) (h2:fd.length<=20) (h3:l.length<=20):yH s P c c2 a en0 at0 at1 bad bad0 e0 ends ends2 ids sr tg cm l st fd m hd i:=by
 have hQ:=(rU hP).2;have hPQ:P<nS s P:=uW (by omega) (by omega);have hR:=rU hQ;unfold yH;rw[D3 hsm hP hk];by_cases h20:cm.length=20
 ·obtain⟨y,hy⟩:=aI5 (c:=c) (a:=a) (en0:=en0) (at0:=at0) (ends:=ends) (ids:=ids) (sr:=sr) (tg:=tg) (l:=l) (st:=st) (fd:=fd) (m:=m) (hd:=hd) hsm hP hk hx h20;rw[hy,a4P hsm hQ hx (by omega),aMH];exact⟨_,_,rfl,rfl,.inr (xL rfl rfl (show (6:Int)≠0 from by decide) (by omega) rfl rfl)⟩
 ·rw[aI4 hsm hP hk hx (by omega) h20,TF hsm hQ hx (by omega),aMH];by_cases hk1:kS s (nS s P)=1
  ·rw[aMI hk1,C7 (C6 (by simp [hk1]) (by simp) (by simp))];exact⟨_,_,rfl,rfl,.inl ⟨nS s (nS s P),sr,tg,cm++[xS s (nS s P)],st,fd,l,m,by omega,hR.2,rfl,rfl,by simp;omega,h2,h3⟩⟩
  ·rw[aMK hk1,yE (by simp [hk1]),wF (by decide)];exact⟨_,_,rfl,rfl,.inr (xL rfl rfl (show (3:Int)≠0 from by decide) (by omega) rfl rfl)⟩
theorem aJl (hk:kS s P=2) (hx:xS s P=sN) (h1:cm.length<=20) (h2:fd.length<=20) (h3:l.length<=20):yH s P c c2 a en0 at0 at1 bad bad0 e0 ends ends2 ids sr tg cm l st fd m true i:=by
 have hQ:=(rU hP).2;have hPQ:P<nS s P:=uW (by omega) (by omega);have hR:=rU hQ;unfold yH;rw[D3 hsm hP hk,show (!true)=false from rfl,hx,FJ hsm hQ (by decide) (by decide) (by decide),aJh,aMH];obtain⟨v,hv,h5⟩:=aI7 (c:=c) (a:=a) (en0:=en0) (at0:=at0) (ends:=ends) (ids:=ids) (sr:=sr) (tg:=tg) (cm:=cm) (l:=l) (st:=st) (fd:=fd) (m:=m) hsm hP hk hx;rw[hv];by_cases hd1:rM .str .bool m sN=true
 ·rw[aMI hd1,aMI hd1];exact⟨_,_,rfl,rfl,.inr (xL rfl rfl (show (9:Int)≠0 from by decide) (by omega) rfl rfl)⟩
 ·rw[aMK hd1,aMK hd1,aMI rfl,h5 hd1];by_cases hk1:kS s (nS s P)=1
  ·rw[aMI hk1,C7 (C6 (by simp [hk1]) (by simp) (by simp))];refine⟨_,_,rfl,rfl,.inl ⟨nS s (nS s P),xS s (nS s P),tg,cm,st,fd,l,sI .str .bool sN true m,by omega,hR.2,rfl,?_,h1,h2,h3⟩⟩;rw[D1,D1,D1,aMI rfl,aMK (by decide),aMK (by decide)]
  ·rw[aMK hk1,yE (by simp [hk1]),wF (by decide)];exact⟨_,_,rfl,rfl,.inr (xL rfl rfl (show (3:Int)≠0 from by decide) (by omega) rfl rfl)⟩
theorem aJm (hk:kS s P=2) (hx:xS s P=sO) (h1:cm.length<=20) (h2:fd.length<=20) (h3:l.length<=20):yH s P c c2 a en0 at0 at1 bad bad0 e0 ends ends2 ids sr tg cm l st fd m true i:=by
 have hQ:=(rU hP).2;have hPQ:P<nS s P:=uW (by omega) (by omega);have hR:=rU hQ;unfold yH;rw[D3 hsm hP hk,show (!true)=false from rfl,hx,FJ hsm hQ (by decide) (by decide) (by decide),aJi,aMH];obtain⟨v,hv,h5⟩:=aI8 (c:=c) (a:=a) (en0:=en0) (at0:=at0) (ends:=ends) (ids:=ids) (sr:=sr) (tg:=tg) (cm:=cm) (l:=l) (st:=st) (fd:=fd) (m:=m) hsm hP hk hx;rw[hv];by_cases hd1:rM .str .bool m sO=true
 ·rw[aMI hd1,aMI hd1];exact⟨_,_,rfl,rfl,.inr (xL rfl rfl (show (9:Int)≠0 from by decide) (by omega) rfl rfl)⟩
 ·rw[aMK hd1,aMK hd1,aMK (by decide),aMI rfl,h5 hd1];by_cases hk1:kS s (nS s P)=1
  ·rw[aMI hk1,C7 (C6 (by simp [hk1]) (by simp) (by simp))];refine⟨_,_,rfl,rfl,.inl ⟨nS s (nS s P),sr,xS s (nS s P),cm,st,fd,l,sI .str .bool sO true m,by omega,hR.2,rfl,?_,h1,h2,h3⟩⟩;rw[D1,D1,D1,aMK (by decide),aMI rfl,aMK (by decide)]
  ·rw[aMK hk1,yE (by simp [hk1]),wF (by decide)];exact⟨_,_,rfl,rfl,.inr (xL rfl rfl (show (3:Int)≠0 from by decide) (by omega) rfl rfl)⟩
theorem aJn (hk:kS s P=2) (hx:xS s P=sX) (h1:cm.length<=20) (h2:fd.length<=20) (h3:l.length<=20):yH s P c c2 a en0 at0 at1 bad bad0 e0 ends ends2 ids sr tg cm l st fd m true i:=by
 have hQ:=(rU hP).2;have hPQ:P<nS s P:=uW (by omega) (by omega);have hR:=rU hQ;unfold yH;rw[D3 hsm hP hk,show (!true)=false from rfl,hx,FJ hsm hQ (by decide) (by decide) (by decide),aJj,aMH];obtain⟨v,hv,h5⟩:=aI9 (c:=c) (a:=a) (en0:=en0) (at0:=at0) (ends:=ends) (ids:=ids) (sr:=sr) (tg:=tg) (cm:=cm) (l:=l) (st:=st) (fd:=fd) (m:=m) hsm hP hk hx;rw[hv];by_cases hd1:rM .str .bool m sX=true
 ·rw[aMI hd1,aMI hd1];exact⟨_,_,rfl,rfl,.inr (xL rfl rfl (show (9:Int)≠0 from by decide) (by omega) rfl rfl)⟩
 ·rw[aMK hd1,aMK hd1,aMK (by decide),aMK (by decide),aMI rfl,h5 hd1];by_cases hk1:kS s (nS s P)=2
  ·rw[aMI hk1];by_cases h6:sS (xS s (nS s P))<0
   ·rw[aMI h6,yE (by simp [hk1];omega),wF (by decide)];exact⟨_,_,rfl,rfl,.inr (xL rfl rfl (show (3:Int)≠0 from by decide) (by omega) rfl rfl)⟩
   ·rw[aMK h6,C7 (C6 (by simp [hk1];omega) (by simp) (by simp)),show max 0 (sS (xS s (nS s P)))=sS (xS s (nS s P)) by omega];refine⟨_,_,rfl,rfl,.inl ⟨nS s (nS s P),sr,tg,cm,sS (xS s (nS s P)),fd,l,sI .str .bool sX true m,by omega,hR.2,rfl,?_,h1,h2,h3⟩⟩;rw[D1,D1,D1,aMK (by decide),aMK (by decide),aMI rfl]
  ·rw[aMK hk1,yE (by simp [hk1]),wF (by decide)];exact⟨_,_,rfl,rfl,.inr (xL rfl rfl (show (3:Int)≠0 from by decide) (by omega) rfl rfl)⟩
theorem aJo (hk:kS s P=2) (hx:xS s P=xK) (h1:cm.length<=20) (h2:fd.length<=20) (h3:l.length<=20):yH s P c c2 a en0 at0 at1 bad bad0 e0 ends ends2 ids sr tg cm l st fd m hd i:=by
 have hQ:=(rU hP).2;have hPQ:P<nS s P:=uW (by omega) (by omega);have hR:=rU hQ;have hR2:=rU hR.2;unfold yH;rw[D3 hsm hP hk,TG hsm hQ hx (by omega),aMH];obtain⟨v,hv,h5⟩:=aI6 (c:=c) (a:=a) (en0:=en0) (at0:=at0) (ends:=ends) (ids:=ids) (sr:=sr) (tg:=tg) (cm:=cm) (l:=l) (st:=st) (fd:=fd) (m:=m) (hd:=hd) hsm hP hk hx (by omega);rw[hv];unfold DX;by_cases hk1:kS s (nS s P)=1
 ·rw[aMK (show¬kS s (nS s P)≠1 from fun h=>h hk1)];by_cases hn:rT (xS s (nS s P))=true
  ·rw[aMK (show¬rT (xS s (nS s P))=false from by simp [hn])];have hb: ¬(decide (kS s (nS s P)≠1)|| !rT (xS s (nS s P)))=true:=by simp [hk1,hn]
   by_cases hdup:(fd.any fun y=>decide (y.1=xS s (nS s P)))=true
   ·rw[aMI hdup,LK hb hdup,aMK (show¬(9:Int)=0 from by decide)];exact⟨_,_,rfl,rfl,.inr (xL rfl rfl (show (9:Int)≠0 from by decide) (by omega) rfl rfl)⟩
   ·rw[aMK hdup];by_cases h20:fd.length=20
    ·rw[aMI (show 20<=fd.length by omega),LL hb hdup (aNK h20),aMK (show¬(6:Int)=0 from by decide)];exact⟨_,_,rfl,rfl,.inr (xL rfl rfl (show (6:Int)≠0 from by decide) (by omega) rfl rfl)⟩
    ·have hc:=C6 hb hdup (show¬decide (fd.length=20)=true from by simp [h20]);rw[aMK (show¬20<=fd.length by omega),h5 hc,hc,aMI rfl];by_cases hk2:kS s (nS s (nS s P))=1
     ·rw[aMK (show¬kS s (nS s (nS s P))≠1 from fun h=>h hk2),C7 (C6 (by simp [hk2]) (by simp) (by simp))];have hl:=aHQ fd (xS s (nS s P)) (xS s (nS s (nS s P)));exact⟨_,_,rfl,rfl,.inl ⟨nS s (nS s (nS s P)),sr,tg,cm,st,AQ fd (xS s (nS s P)) (xS s (nS s (nS s P))),l,m,by omega,hR2.2,rfl,rfl,h1,by omega,h3⟩⟩
     ·rw[aMI hk2,yE (by simp [hk2]),wF (by decide)];exact⟨_,_,rfl,rfl,.inr (xL rfl rfl (show (3:Int)≠0 from by decide) (by omega) rfl rfl)⟩
  ·have hn':rT (xS s (nS s P))=false:=by simpa using hn
   rw[aMI hn',yE (by simp [hn']),aMK (show¬(3:Int)=0 from by decide)];exact⟨_,_,rfl,rfl,.inr (xL rfl rfl (show (3:Int)≠0 from by decide) (by omega) rfl rfl)⟩
 ·rw[aMI hk1,yE (by simp [hk1]),aMK (show¬(3:Int)=0 from by decide)];exact⟨_,_,rfl,rfl,.inr (xL rfl rfl (show (3:Int)≠0 from by decide) (by omega) rfl rfl)⟩
theorem aJp (hk:kS s P=2) (hx:xS s P=BK) (h1:cm.length<=20) (h2:fd.length<=20) (h3:l.length<=20):yH s P c c2 a en0 at0 at1 bad bad0 e0 ends ends2 ids sr tg cm l st fd m true i:=by
 have hQ:=(rU hP).2;have hPQ:P<nS s P:=uW (by omega) (by omega);have hR:=rU hQ;have hsl:=a4S l;unfold yH;rw[D3 hsm hP hk,show (!true)=false from rfl,TH hsm hQ hx (by omega),aMH,aJa hsm hP hk hx (by omega)];unfold DZ;rw[aJc,hsl,aJf];by_cases hk1:kS s (nS s P)=2
 ·rw[aMK (show¬kS s (nS s P)≠2 from fun h=>h hk1)];by_cases hn:rT (xS s (nS s P))=true
  ·rw[aMK (show¬rT (xS s (nS s P))=false from by simp [hn])];have hb: ¬(decide (kS s (nS s P)≠2)|| !rT (xS s (nS s P)))=true:=by simp [hk1,hn]
   by_cases hdup:(l.any fun y=>decide (y=xS s (nS s P)))=true
   ·rw[aMI hdup,LK hb hdup,wF (by decide)];exact⟨_,_,rfl,rfl,.inr (xL rfl rfl (show (9:Int)≠0 from by decide) (by simp;omega) rfl rfl)⟩
   ·rw[aMK hdup];by_cases h20:l.length=20
    ·rw[aMI (show 20<=l.length by omega),LL hb hdup (aNK h20),wF (by decide)];exact⟨_,_,rfl,rfl,.inr (xL rfl rfl (show (6:Int)≠0 from by decide) (by simp;omega) rfl rfl)⟩
    ·rw[aMK (show¬20<=l.length by omega),C7 (C6 hb hdup (show¬decide (l.length=20)=true from by simp [h20]))];exact⟨_,_,rfl,rfl,.inl ⟨nS s (nS s P),sr,tg,cm,st,fd,l++[xS s (nS s P)],m,by omega,hR.2,rfl,rfl,h1,h2,by simp;omega⟩⟩
  ·have hn':rT (xS s (nS s P))=false:=by simpa using hn
   rw[aMI hn',yE (by simp [hn']),wF (by decide)];exact⟨_,_,rfl,rfl,.inr (xL rfl rfl (show (3:Int)≠0 from by decide) (by simp;omega) rfl rfl)⟩
 ·rw[aMI hk1,yE (by simp [hk1]),wF (by decide)];exact⟨_,_,rfl,rfl,.inr (xL rfl rfl (show (3:Int)≠0 from by decide) (by simp;omega) rfl rfl)⟩
theorem aJq (hk:kS s P=2) (hx:xS s P≠w5) (hx2:xS s P≠xK) (h3:l.length<=20):yH s P c c2 a en0 at0 at1 bad bad0 e0 ends ends2 ids sr tg cm l st fd m false i:=by
 have hQ:=(rU hP).2;unfold yH;rw[D3 hsm hP hk,show (!false)=true from rfl,a4Q hsm hQ hx hx2,aMH,aCI hsm hP hk (fun _ _ _ _ _ _=>aI2 hx hx2)];exact⟨_,_,rfl,rfl,.inr (aCL rfl rfl (show (3:Int)≠0 from by decide) (by omega) rfl rfl)⟩
theorem aJr (hk:kS s P=2) (hx:xS s P≠w5) (hx2:xS s P≠xK) (hx3:xS s P≠sN) (hx4:xS s P≠sO) (hx5:xS s P≠sX) (hx6:xS s P≠BK) (h3:l.length<=20):yH s P c c2 a en0 at0 at1 bad bad0 e0 ends ends2 ids sr tg cm l st fd m true i:=by
 have hQ:=(rU hP).2;unfold yH;rw[D3 hsm hP hk,show (!true)=false from rfl,FJ hsm hQ hx hx2 hx6,aMH,aCI hsm hP hk (fun _ _ _ _ _ _=>aI3 hx hx2 hx3 hx4 hx5 hx6),
  aMK (by simp [hx3,hx4,hx5]),aMK hx3,aMK hx4,aMK hx5]
 exact⟨_,_,rfl,rfl,.inr (aCL rfl rfl (show (3:Int)≠0 from by decide) (by omega) rfl rfl)⟩
theorem aJs (hk:kS s P=2) (h1:cm.length<=20) (h2:fd.length<=20) (h3:l.length<=20):yH s P c c2 a en0 at0 at1 bad bad0 e0 ends ends2 ids sr tg cm l st fd m hd i:=by
 by_cases hx:xS s P=w5
 ·exact aJk hsm hP hk hx h1 h2 h3
 by_cases hx2:xS s P=xK
 ·exact aJo hsm hP hk hx2 h1 h2 h3
 cases hd with
 |false=>exact aJq hsm hP hk hx hx2 h3
 |true=>
  by_cases hx3:xS s P=sN
  ·exact aJl hsm hP hk hx3 h1 h2 h3
  by_cases hx4:xS s P=sO
  ·exact aJm hsm hP hk hx4 h1 h2 h3
  by_cases hx5:xS s P=sX
  ·exact aJn hsm hP hk hx5 h1 h2 h3
  by_cases hx6:xS s P=BK
  ·exact aJp hsm hP hk hx6 h1 h2 h3
  exact aJr hsm hP hk hx hx2 hx3 hx4 hx5 hx6 h3
end
abbrev S9:=Int×Int×Int×List UInt8×List UInt8×List (List UInt8)×List (List UInt8)×Int×List rC
abbrev E2:=Int×Int×Int×List Int×List UInt8×List UInt8×List (List UInt8)×List (List UInt8)×Int×List rC
def aJt (s:List UInt8) (P:Nat) (a bad:Int) (ends2:List Int) (po:GW) (ro:S9⊕E2):Prop:=
 ∃(P':Nat) (sr tg:List UInt8) (cm:List (List UInt8)) (st:Int) (fd:List rC) (l:List (List UInt8)) (m:List (List UInt8×Bool)),
  P<=P'/\P'<=s.length/\kS s P'=3/\xS s P'=[125]/\po=rV (sV s P' a) sr tg cm st fd l m/\ro= .inr ((nS s P':Int),bad,0,ends2++[(nS s P':Int)],sr,tg,cm,vF l,st,fd)/\
  cm.length<=20/\fd.length<=20/\l.length<=20
def aJu (s:List UInt8) (P:Nat) (a:Int) (po:GW) (ro:S9⊕E2):Prop:=
 ∃(P':Nat) (sr tg:List UInt8) (cm:List (List UInt8)) (st:Int) (fd:List rC) (l:List (List UInt8)) (m:List (List UInt8×Bool)) (r:E2),
  P<=P'/\P'<=s.length/\¬(kS s P'=3/\xS s P'=[125])/\po=rV (sV s P' a) sr tg cm st fd l m/\ro= .inr r/\r.2.1=(fS s P':Int)/\r.2.2.1=3/\l.length<=21
def aJv (po:GW) (ro:S9⊕E2):Prop:=
 ∃(r:R8) (sr tg:List UInt8) (cm:List (List UInt8)) (st:Int) (fd:List rC) (l:List (List UInt8)) (m:List (List UInt8×Bool)) (r9:S9),
  r.2.2.2.2.2.2.1≠0/\po=rV r sr tg cm st fd l m/\l.length<=21/\ro= .inl r9/\r9.2.1=r.2.2.2.2.2.1/\r9.2.2.1=r.2.2.2.2.2.2.1
theorem D4 {σ ρ:Type}{f:σ->Option (σ⊕ρ)}{x y:σ}(h:f x=some (.inl y)):pR f x=pR f y:=by
 rw[wQ,h];rfl
theorem tJ {σ ρ:Type}{f:σ->Option (σ⊕ρ)}{x:σ}{r:ρ}(h:f x=some (.inr r)):pR f x=some r:=by
 rw[wQ,h];rfl
section
variable {s:List UInt8}(hsm:s.length<=4000000000) {c c2:C4}{a en0 at0 at1 bad bad0 e0:Int}{ends ends2:List Int}(hends:ends2.length<=5000) {ids:List (List UInt8×Bool)}{hd:Bool}{i:qT}
include hsm hends
theorem aCM: ∀(n P:Nat) (sr tg:List UInt8) (cm l:List (List UInt8)) (st:Int) (fd:List rC) (m:List (List UInt8×Bool)),
  s.length-P<=n->P<=s.length->cm.length<=20->fd.length<=20->l.length<=20->
  ∃po ro,pR (v8 (s,(at0,())) c (ends,(en0,())) hd ids) (rV (sV s P a) sr tg cm st fd l m)=some po/\
   pR (w4 (s,(at1,(bad0,(e0,(c2,(ends2,())))))) i (!hd)) ((P:Int),bad,0,sr,tg,cm,vF l,st,fd,rM .str .bool m sN,rM .str .bool m sO,rM .str .bool m sX)=some ro/\
   (aJt s P a bad ends2 po ro\/aJu s P a po ro\/aJv po ro)
 |n,P,sr,tg,cm,l,st,fd,m,hn,hP,h1,h2,h3=>by
  by_cases hk:kS s P=2
  ·obtain⟨ps,rs,hp,hr,hgb⟩:=aJs (c:=c) (c2:=c2) (a:=a) (en0:=en0) (at0:=at0) (at1:=at1) (bad:=bad) (bad0:=bad0) (e0:=e0) (ends:=ends) (ends2:=ends2) (ids:=ids) (sr:=sr) (tg:=tg) (st:=st) (m:=m) (hd:=hd) (i:=i) hsm hP hk h1 h2 h3;rw[D4 hr];rcases hgb with⟨P',sr',tg',cm',st',fd',l',m',g1,g2,rfl,rfl,g3,g4,g5⟩ |⟨r,sr',tg',cm',st',fd',l',m',b1,b2,b3,b4,b5⟩
   ·rw[D4 hp]
    match n,hn with
    |0,hn=>exact absurd g2 (by omega)
    |n+1,hn=>
     obtain⟨po,ro,i1,i2,i3⟩:=aCM n P' sr' tg' cm' l' st' fd' m' (by omega) g2 g3 g4 g5;refine⟨po,ro,i1,i2,?_⟩;rcases i3 with⟨Q,x1,x2,x3,x4,x5,x6,x7,y1,y2⟩ |⟨Q,x1,x2,x3,x4,x5,x6,x7,x8,y1,y2⟩ |h
     ·exact .inl ⟨Q,x1,x2,x3,x4,x5,x6,x7,by omega,y2⟩
     ·exact .inr (.inl ⟨Q,x1,x2,x3,x4,x5,x6,x7,x8,by omega,y2⟩)
     ·exact .inr (.inr h)
   ·obtain⟨q1,q2,q3,q4⟩:=rs;have hre:q3≠0:=by rw[show q3=r.2.2.2.2.2.2.1 from b5];exact b1
    rw[tJ (IX (s:=s) (c:=c2) (bad:=q2) (bad0:=bad0) (at0:=at1) (e0:=e0) (ends:=ends2) (i:=i) (hd:= !hd) (p:=q1) (sr:=q4.1) (tg:=q4.2.1) (cm:=q4.2.2.1) (fg:=q4.2.2.2.1) (st:=q4.2.2.2.2.1) (fd:=q4.2.2.2.2.2.1) (d1:=q4.2.2.2.2.2.2.1) (d2:=q4.2.2.2.2.2.2.2.1) (d3:=q4.2.2.2.2.2.2.2.2) hre)];rcases b2 with rfl|rfl
    ·rw[D4 hp,tJ (a4R b1)];exact⟨_,_,rfl,rfl,.inr (.inr ⟨r,sr',tg',cm',st',fd',l',m',_,b1,rfl,b3,rfl,b4,b5⟩)⟩
    ·rw[tJ hp];exact⟨_,_,rfl,rfl,.inr (.inr ⟨r,sr',tg',cm',st',fd',l',m',_,b1,rfl,b3,rfl,b4,b5⟩)⟩
  ·rw[tJ (aJb hsm hP hk)];by_cases hb:kS s P=3/\xS s P=[125]
   ·rw[tJ (TL hsm hP hb.1 hb.2 hends)];exact⟨_,_,rfl,rfl,.inl ⟨P,sr,tg,cm,st,fd,l,m,aM2 _,hP,hb.1,hb.2,rfl,rfl,h1,h2,h3⟩⟩
   ·rw[tJ (a4T hsm hP hk hb)];exact⟨_,_,rfl,rfl,.inr (.inl ⟨P,sr,tg,cm,st,fd,l,m,_,aM2 _,hP,hb,rfl,rfl,rfl,rfl,by omega⟩)⟩
end
abbrev IY (y:qT):Prop:=pQ y.2.2.2.1/\pQ y.2.2.2.2.1/\pQ y.2.2.2.2.2.2.1
abbrev B15:=List UInt8×List UInt8×List (List UInt8)×List (List UInt8)×Int×List rC×Int×Int×List UInt8×Int×Int×Int×Int×List Int×Int
abbrev i0 (i1:List UInt8):qT:=(i1,([],([],([],([],(0,([],())))))))
def aJw (s:List UInt8) (P:Nat) (a bad:Int) (ends ends2:List Int) (po:B15) (ro:E2):Prop:=
 ∃(P':Nat) (sr tg:List UInt8) (cm fg:List (List UInt8)) (st:Int) (fd:List rC),P<P'/\P'<=s.length/\
  po=(sr,tg,cm,fg,st,fd,(nS s P':Int),kS s P',xS s P',(fS s P':Int),(nS s P':Int),a,0,ends++[(P':Int)],(P':Int))/\
  ro=((P':Int),bad,0,ends2++[(P':Int)],sr,tg,cm,fg,st,fd)/\pQ cm/\pQ fg/\pQ fd
def aJx (po:B15) (ro:E2):Prop:=
 po.2.2.2.2.2.2.2.2.2.2.2.2.1≠0/\ro.2.1=po.2.2.2.2.2.2.2.2.2.2.2.1/\ro.2.2.1=po.2.2.2.2.2.2.2.2.2.2.2.2.1
section
variable {s:List UInt8}(hsm:s.length<=4000000000) {P:Nat}(hP:P<=s.length) {c c2:C4}{a en at0 bad k f t e:Int}{x i1:List UInt8}{ends ends2:List Int}(hends:ends.length<=5000) (hends2:ends2.length<=5000) {ids:List (List UInt8×Bool)}{hd:Bool}{i:qT}
include hends
theorem GY (he:e≠0): ∃po,uS (s,(at0,())) (k,(x,(f,(t,())))) a e c (ends,(en,())) hd ids=some po/\po.2.2.2.2.2.2.2.2.2.2.2.1=a/\po.2.2.2.2.2.2.2.2.2.2.2.2.1=e:=by
 unfold uS;rw[TC he,aMH];dsimp only;have h:=tJ (a4R (s:=s) (at0:=at0) (c:=c) (ends:=ends) (en0:=en) (ids:=ids) (hd:=hd) (sr:=[]) (tg:=[]) (cm:=[]) (st:=0) (fd:=[]) (l:=[]) (m:=[]) (r:=(at0,k,x,f,t,a,e,en)) he);unfold rV at h;dsimp only at h;rw[h];unfold rE;rw[aMH];dsimp only;rw[TC he,aMH,aMI (by decide),aMI (by simp;omega)];exact⟨_,rfl,rfl,rfl⟩
include hsm hP hends2
theorem aCO: ∃po ro,uS (s,((nS s P:Int),())) (kS s P,(xS s P,((fS s P:Int),((nS s P:Int),())))) a 0 c (ends,(en,())) hd ids=some po/\
  uE (s,((P:Int),(bad,(0,(c2,(ends2,())))))) (i0 i1) (!hd)=some ro/\(aJw s P a bad ends ends2 po ro\/aJx po ro):=by
 have hQ:=(rU hP).2;unfold uS uE;rw[OG hsm hQ,aMH,yG hsm hP,aMH];by_cases h0:kS s P=3/\xS s P=[123]
 ·have hPQ:P<nS s P:=uW (by omega) (by omega);rw[aMI h0,C7 rfl,u6 (by rw[(yF (by decide) (by decide)).2 h0.1,h0.2];decide)];obtain⟨po,ro,h1,h2,h3⟩:=aCM (c:=c) (c2:=c2) (a:=a) (en0:=en) (at0:=(nS s P:Int)) (at1:=(P:Int)) (bad:=bad) (bad0:=bad) (e0:=0) (ends:=ends) (ids:=ids) (hd:=hd) (i:=i0 i1) hsm hends2 s.length (nS s P) [] [] [] [] 0 [] [] (by omega) hQ (by decide) (by decide) (by decide);unfold rV at h1;rw[show vF []=[] from aOe.1 (a4S []),show rM .str .bool [] sN=false from rfl,show rM .str .bool [] sO=false from rfl,show rM .str .bool [] sX=false from rfl] at h2;dsimp only;rw[h1];rw[h2];unfold rE;rw[aMH];rcases h3 with⟨P',sr,tg,cm,st,fd,l,m,g1,g2,g3,g4,rfl,rfl,g5,g6,g7⟩ |⟨P',sr,tg,cm,st,fd,l,m,r,g1,g2,g3,rfl,rfl,g4,g5,g6⟩ |⟨r,sr,tg,cm,st,fd,l,m,r9,g1,rfl,g2,rfl,g3,g4⟩
  ·have hQ':=rU g2;have hpos:P'<nS s P':=uW (by omega) (by omega);unfold rV sV;dsimp only;rw[OG hsm hQ'.2,aMI ⟨g3,g4⟩,C7 rfl,aMH,aMI (by omega),aMI (by simp;omega)];exact⟨_,_,rfl,rfl,.inl ⟨nS s P',sr,tg,cm,vF l,st,fd,by omega,hQ'.2,rfl,rfl,by unfold pQ;omega,by unfold pQ;rw[a4S];omega,by unfold pQ;omega⟩⟩
  ·have hQ':=rU g2;unfold rV sV;dsimp only;rw[OG hsm hQ'.2,aMK g3,wF (by decide),aMH,aMI (by omega),aMI (by simp;omega)];exact⟨_,_,rfl,rfl,.inr ⟨show (3:Int)≠0 from by decide,g4,g5⟩⟩
  ·unfold rV;dsimp only;rw[TC g1,aMH,aMI (by omega),aMI (by simp;omega)];exact⟨_,_,rfl,rfl,.inr ⟨g1,g3,g4⟩⟩
 ·rw[aMK h0,wF (by decide),vA (by simp only[aMS,aNz,aMQ,yF (show (3:Int)≠0 by decide) (show (3:Int)≠4 by decide)];intro hh;rcases hh with⟨u,v|v⟩;exact absurd v (by decide);exact h0 ⟨u,v⟩)]
  dsimp only;have h:=tJ (a4R (s:=s) (at0:=(nS s P:Int)) (c:=c) (ends:=ends) (en0:=en) (ids:=ids) (hd:=hd) (sr:=[]) (tg:=[]) (cm:=[]) (st:=0) (fd:=[]) (l:=[]) (m:=[]) (r:=((nS s P:Int),kS s P,xS s P,(fS s P:Int),(nS s P:Int),(fS s P:Int),3,en)) (show (3:Int)≠0 from by decide));unfold rV at h;dsimp only at h;rw[h,tJ (IX (show (3:Int)≠0 from by decide))];unfold rE;rw[aMH];dsimp only;rw[TC (by decide),aMH,aMI (by decide),aMI (by simp;omega)];exact⟨_,_,rfl,rfl,.inr ⟨show (3:Int)≠0 from by decide,rfl,rfl⟩⟩
end
section
variable {s:List UInt8}(hsm:s.length<=4000000000) {P:Nat}(hP:P<=s.length) {c2:C4}{bad e:Int}{i1:List UInt8}{ends2:List Int}{hd:Bool}{i:qT}
include hsm hP
theorem FL (he:e≠0): ∃ro,uE (s,((P:Int),(bad,(e,(c2,(ends2,())))))) i hd=some ro/\ro.2.1=bad/\ro.2.2.1=e:=by
 unfold uE;rw[FI hsm hP he,aMH];dsimp only;rw[tJ (IX he)];exact⟨_,rfl,rfl,rfl⟩
end
def a4V (es:List qT) (x:List UInt8):Int×Bool:=tZ (fun k=>((k:Int),true)) ((0:Int),false) (es.findIdx? fun y=>decide (y.1=x))
theorem TM (es:List qT) (x:List UInt8):(a4V es x).2=es.any fun y=>decide (y.1=x):=by
 rw[<-a4s];unfold a4V;cases es.findIdx? fun y=>decide (y.1=x)<;>rfl
theorem TN (c:C4) (x:List UInt8) (hl:c.2.2.2.1.length<=5000):RT c x=some (a4V c.2.2.2.1 x):=by
 have h:=CS (f:=RS c x) (l:=c.2.2.2.1) (fun y=>decide (y.1=x)) (fun k=>((k:Int),true)) (fun i h=>by
  unfold RS;rw[aMI (uF h),aMI (rX h),y3 (t:=tC) h,aMI (sR (by omega))]) (by
  unfold RS;rw[aMK (zG _)])
 unfold RT;rw[h,FD];rfl
def OJ (ids:List (List UInt8×Bool)) (es:List qT):Prop:= ∀x,rM .str .bool ids x=es.any fun y=>decide (y.1=x)
theorem aJy {ids:List (List UInt8×Bool)}{es:List qT}(h:OJ ids es) (e:qT) (x:List UInt8) (he:e.1=x):OJ (sI .str .bool x true ids) (es++[e]):=by
 intro y;rw[D1,List.any_append,<-h y];by_cases hy:y=x
 ·rw[aMI hy];simp [he,hy]
 ·rw[aMK hy];have:decide (e.1=y)=false:=by rw[he];simpa using fun hh=>hy hh.symm
  simp [this]
abbrev E11:=Int×Int×List UInt8×Int×Int×Int×Int×List qT×List Int×Int×List (List UInt8×Bool)
abbrev E5:=Int×Int×Int×List qT×List Int
def aJz (s:List UInt8) (P:Nat) (a bad:Int) (ends:List Int) (es:List qT) (po:E11) (ro:E5):Prop:=
 ∃(P':Nat) (y:qT) (ids:List (List UInt8×Bool)),P<P'/\P'<=s.length/\es.length<1000/\OJ ids (es++[y])/\
  po=((nS s P':Int),kS s P',xS s P',(fS s P':Int),(nS s P':Int),a,0,es++[y],ends++[(P':Int)],(P':Int),ids)/\
  ro=((P':Int),bad,0,es++[y],ends++[(P':Int)])/\IY y
def aCP (po:E11) (ro:E5):Prop:=po.2.2.2.2.2.2.1≠0/\ro.2.1=po.2.2.2.2.2.1/\ro.2.2.1=po.2.2.2.2.2.2.1
section
variable {s:List UInt8}(hsm:s.length<=4000000000) {P:Nat}(hP:P<=s.length) {a en bad:Int}{t1 t2:List UInt8}{cm1 cm2:List (List UInt8)}{fd1 fd2:List rC}{es:List qT}{ends:List Int}(hends:ends.length<=5000) {ids:List (List UInt8×Bool)}(hids:OJ ids es) (hes:es.length<=1000)
include hsm hP hends hids hes
theorem XA: ∃po ro,wV (s,((nS s P:Int),())) (kS s P,(xS s P,((fS s P:Int),((nS s P:Int),())))) a 0 (t1,(cm1,(fd1,(es,())))) (ends,(en,())) ids=some po/\
  zB (s,((P:Int),(bad,(0,((t2,(cm2,(fd2,(es,())))),(ends,()))))))=some ro/\(aJz s P a bad ends es po ro\/aCP po ro):=by
 have hQ:=(rU hP).2;have hR:=(rU hQ).2;unfold wV zB;rw[OG hsm hQ,aMH,yG hsm hP,aMH];by_cases h0:kS s P=2/\xS s P=[101,110,116,114,121]
 ·have hPQ:P<nS s P:=uW (by omega) (by omega);rw[aMI h0,C7 rfl,u6 (by rw[(yF (by decide) (by decide)).2 h0.1,h0.2];decide)];unfold sV;dsimp only;rw[aIQ hsm hR,aMH,A2 hsm hQ (by decide) (by decide),aMH,hids (xS s (nS s P))];by_cases hk1:kS s (nS s P)=1
  ·have hQR:nS s P<nS s (nS s P):=uW (by omega) (by omega);rw[u6 (by simpa using hk1)];dsimp only;rw[aMK (show¬(!decide ((0:Int)=0))=true from by decide),TN _ _ (show es.length<=5000 by omega),aMH,TM];dsimp only;by_cases hid:D0 (xS s (nS s P))=true
   ·have hid': ¬(decide (xS s (nS s P)=[])||decide ((200:Int)<((xS s (nS s P)).length:Int)))=true:=by
     unfold D0 at hid;simp at hid⊢;omega
    have hb: ¬(decide (kS s (nS s P)≠1)|| !D0 (xS s (nS s P)))=true:=by simp [hk1,hid]
    rw[aMK hid'];by_cases hdup:(es.any fun y=>decide (y.1=xS s (nS s P)))=true
    ·rw[aMI hdup,LK hb hdup,wF (by decide)];unfold qW;rw[uV];obtain⟨po,hpo,h1,h2⟩:=GY (s:=s) (at0:=(nS s (nS s P):Int)) (c:=(t1,(cm1,(fd1,(es,()))))) (a:=(fS s (nS s P):Int)) (en:=(nS s P:Int)) (k:=kS s (nS s P)) (x:=xS s (nS s P)) (f:=(fS s (nS s P):Int)) (t:=(nS s (nS s P):Int)) (ids:=sI .str .bool (xS s (nS s P)) true ids) (hd:=true) hends (show (9:Int)≠0 by decide);dsimp only;rw[hpo,aMH,aMI (by simp;omega)];exact⟨_,_,rfl,rfl,.inr ⟨by show po.2.2.2.2.2.2.2.2.2.2.2.2.1≠0;rw[h2];decide,h1.symm,h2.symm⟩⟩
    ·rw[aMK hdup];by_cases hm:es.length=1000
     ·rw[aMI (show decide ((1000:Int)<=(es.length:Int))=true from by simp;omega),LL hb hdup (by simp;omega),wF (by decide)];unfold qW;rw[uV];obtain⟨po,hpo,h1,h2⟩:=GY (s:=s) (at0:=(nS s (nS s P):Int)) (c:=(t1,(cm1,(fd1,(es,()))))) (a:=(fS s (nS s P):Int)) (en:=(nS s P:Int)) (k:=kS s (nS s P)) (x:=xS s (nS s P)) (f:=(fS s (nS s P):Int)) (t:=(nS s (nS s P):Int)) (ids:=sI .str .bool (xS s (nS s P)) true ids) (hd:=true) hends (show (6:Int)≠0 by decide);dsimp only;rw[hpo,aMH,aMI (by simp;omega)];exact⟨_,_,rfl,rfl,.inr ⟨by show po.2.2.2.2.2.2.2.2.2.2.2.2.1≠0;rw[h2];decide,h1.symm,h2.symm⟩⟩
     ·rw[aMK (show¬decide ((1000:Int)<=(es.length:Int))=true from by simp;omega),C6 hb hdup (by simp;omega),C7 rfl];unfold sV;dsimp only;obtain⟨po,ro,hpo,hro,h5⟩:=aCO (c:=(t1,(cm1,(fd1,(es,()))))) (c2:=(t2,(cm2,(fd2,(es,()))))) (a:=a) (en:=(nS s (nS s P):Int)) (bad:=bad) (i1:=xS s (nS s P)) (ids:=sI .str .bool (xS s (nS s P)) true ids) (hd:=true) hsm hR hends hends;rw[hpo,aMH,aMI (by simp;omega),show (false)= !true from rfl,hro,aMH,aMI (by simp;omega),aMI (by simp;omega)];refine⟨_,_,rfl,rfl,?_⟩;rcases h5 with⟨P',sr,tg,cm,fg,st,fd,g1,g2,rfl,rfl,f1,f2,f3⟩ |⟨g1,g2,g3⟩
      ·exact .inl ⟨P',_,_,by omega,g2,by omega,aJy hids _ _ rfl,rfl,rfl,f1,f2,f3⟩
      ·exact .inr ⟨g1,g2,g3⟩
   ·have hid':(decide (xS s (nS s P)=[])||decide ((200:Int)<((xS s (nS s P)).length:Int)))=true:=by
     unfold D0 at hid;simp at hid⊢;by_cases hh:xS s (nS s P)=[]<;>simp_all
    rw[aMI hid',yE (by simp [hid]),wF (by decide)];unfold qW;rw[uV];obtain⟨po,hpo,h1,h2⟩:=GY (s:=s) (at0:=(nS s (nS s P):Int)) (c:=(t1,(cm1,(fd1,(es,()))))) (a:=(fS s (nS s P):Int)) (en:=(nS s P:Int)) (k:=kS s (nS s P)) (x:=xS s (nS s P)) (f:=(fS s (nS s P):Int)) (t:=(nS s (nS s P):Int)) (ids:=sI .str .bool (xS s (nS s P)) true ids) (hd:=true) hends (show (3:Int)≠0 by decide);dsimp only;rw[hpo,aMH,aMI (by simp;omega)];exact⟨_,_,rfl,rfl,.inr ⟨by show po.2.2.2.2.2.2.2.2.2.2.2.2.1≠0;rw[h2];decide,h1.symm,h2.symm⟩⟩
  ·rw[vA (by simpa using hk1),yE (by simp [hk1]),wF (by decide)];dsimp only;rw[aMI (show (!decide ((3:Int)=0))=true from by decide)];obtain⟨po,hpo,h1,h2⟩:=GY (s:=s) (at0:=(nS s (nS s P):Int)) (c:=(t1,(cm1,(fd1,(es,()))))) (a:=(fS s (nS s P):Int)) (en:=(nS s P:Int)) (k:=kS s (nS s P)) (x:=xS s (nS s P)) (f:=(fS s (nS s P):Int)) (t:=(nS s (nS s P):Int)) (ids:=sI .str .bool (xS s (nS s P)) true ids) (hd:=true) hends (show (3:Int)≠0 by decide);rw[hpo,aMH,aMI (by simp;omega)];exact⟨_,_,rfl,rfl,.inr ⟨by show po.2.2.2.2.2.2.2.2.2.2.2.2.1≠0;rw[h2];decide,h1.symm,h2.symm⟩⟩
 ·rw[aMK h0,wF (by decide),vA (by simp only[aMS,aNz,aMQ,yF (show (2:Int)≠0 by decide) (show (2:Int)≠4 by decide)];intro hh;rcases hh with⟨u,v|v⟩;exact absurd v (by decide);exact h0 ⟨u,v⟩)]
  dsimp only;rw[aIR (by decide),aMH,FI hsm hP (by decide),aMH];dsimp only;rw[aMI (show (!decide ((3:Int)=0))=true from by decide)];obtain⟨po,hpo,h1,h2⟩:=GY (s:=s) (at0:=(nS s P:Int)) (c:=(t1,(cm1,(fd1,(es,()))))) (a:=(fS s P:Int)) (en:=en) (k:=kS s P) (x:=xS s P) (f:=(fS s P:Int)) (t:=(nS s P:Int)) (ids:=sI .str .bool (xS s P) true ids) (hd:=true) hends (show (3:Int)≠0 by decide);rw[hpo,aMH,aMI (by simp;omega)];exact⟨_,_,rfl,rfl,.inr ⟨by show po.2.2.2.2.2.2.2.2.2.2.2.2.1≠0;rw[h2];decide,h1.symm,h2.symm⟩⟩
end
abbrev eD:tY:=([],([],([],([],([],(0,([],())))))))
def OK (es:List tY) (i:Nat):Bool:=((es.take i).any fun y=>decide (y.1=(es.getD i eD).1))|| !GR (es.getD i eD)
def C8 (c:C4):Bool:=((tW c.1&&C2 c.2.1)&&BG c.2.2.1)&&(decide ((c.2.2.2.1.length:Int)<=1000)&& !((List.range c.2.2.2.1.length).any (OK c.2.2.2.1)))
theorem aJA (l:List UInt8):(sP l).length=l.length:=by simp [sP]
def vO (h:List UInt8) (l:List (List UInt8)) (t:List UInt8):List UInt8:=h++(l.flatten++t)
theorem aCQ {f:(Int×List UInt8)->List Int->Option (List Int⊕List UInt8)}(hf: ∀it b,b.length+it.2.length<=140737488355328->f it b=some (.inl (b++sP it.2))): ∀(l:List (Int×List UInt8)) (b:List Int),
  b.length+((l.map (·.2)).flatten).length<=140737488355328->AJ f l b=some (.inl (b++sP (l.map (·.2)).flatten))
 |[],b,_=>by simp [AJ,sP]
 |it::l,b,h=>by
  simp only[aNT,aN3,aMN] at h;unfold AJ;rw[hf it b (by omega),aMH];show AJ f l _=_;rw[aCQ hf l _ (by rw[aMN,aJA];omega)];simp only[aNT,aN3,a4G,aMU]
theorem aCR (d:yX):((xY d).map (·.2)).flatten=vO d.1 d.2.1 d.2.2.1:=by
 unfold xY vO;have e:(List.range d.2.1.length).map (fun j=>d.2.1.getD j [])=d.2.1:=by
  apply List.ext_getElem
  ·simp
  ·intro i h1 h2;simp [aNa,h2]
 have e2:(((List.range d.2.1.length).map fun j:Nat=>((j:Int)+1,d.2.1.getD j [])).map (·.2))=d.2.1:=by
  rw[List.map_map];exact e
 simp only[aNT,List.map_append,List.map_nil,aN3,List.flatten_append,List.flatten_nil,List.append_nil,e2,aMU]
theorem aJB (d:yX) (hl:d.2.1.length<=900000) (hb:(vO d.1 d.2.1 d.2.2.1).length<=140737488355328):IE d=some (vO d.1 d.2.1 d.2.2.1):=by
 have h:=aCQ (f:=SA) (fun it b h=>by
  unfold SA EY;rw[aMI h,aMH]) (xY d) [] (by rw[aCR];simpa using hb)
 unfold IE;rw[aMI (by omega),h,aCR];unfold s5;dsimp only;rw[aMH];simp only[List.nil_append,a4H]
abbrev H12:=Int×Int×List UInt8×Int×Int×Int×Int×List UInt8×List (List UInt8)×List rC×List Int×Int
abbrev H7:=Int×Int×Int×List UInt8×List (List UInt8)×List rC×List Int
def aJC (s:List UInt8) (P:Nat) (a bad:Int) (ends:List Int) (po:H12) (ro:H7):Prop:=
 ∃(P':Nat) (tag:List UInt8) (cm:List (List UInt8)) (fd:List rC),P<P'/\P'<=s.length/\
  po=((nS s P':Int),kS s P',xS s P',(fS s P':Int),(nS s P':Int),a,0,tag,cm,fd,ends++[(P':Int)],(P':Int))/\
  ro=((P':Int),bad,0,tag,cm,fd,ends++[(P':Int)])/\pQ cm/\pQ fd
def aJD (po:H12) (ro:H7):Prop:=po.2.2.2.2.2.2.1≠0/\ro.2.1=po.2.2.2.2.2.1/\ro.2.2.1=po.2.2.2.2.2.2.1
section
variable {s:List UInt8}(hsm:s.length<=4000000000) {P:Nat}(hP:P<=s.length) {a en bad:Int}{c c2:C4}{ends:List Int}(hends:ends.length<=5000) {ids:List (List UInt8×Bool)}
include hsm hP hends
theorem aCS: ∃po ro,wU (s,((nS s P:Int),())) (kS s P,(xS s P,((fS s P:Int),((nS s P:Int),())))) a 0 c (ends,(en,())) ids=some po/\
  BZ (s,((P:Int),(bad,(0,(c2,(ends,()))))))=some ro/\(aJC s P a bad ends po ro\/aJD po ro):=by
 have hQ:=(rU hP).2;have hR:=(rU hQ).2;unfold wU BZ;rw[OG hsm hQ,aMH,yG hsm hP,aMH];by_cases h0:kS s P=2/\xS s P=[99,97,116,97,108,111,103]
 ·have hPQ:P<nS s P:=uW (by omega) (by omega);rw[aMI h0,C7 rfl,u6 (by rw[(yF (by decide) (by decide)).2 h0.1,h0.2];decide)];unfold sV;dsimp only;rw[aIK hsm hR,aMH,A2 hsm hQ (by decide) (by decide),aMH];by_cases hk1:kS s (nS s P)=1
  ·have hQR:nS s P<nS s (nS s P):=uW (by omega) (by omega);rw[u6 (by simpa using hk1)];dsimp only;rw[LE _ (GV hsm hQ),aMI uH];by_cases ht:tW (xS s (nS s P))=true
   ·rw[C6 (by simp [hk1,ht]) (by simp) (by simp),C7 rfl];rw[aMK (show¬(decide ((0:Int)=0)&& !val (some (tW (xS s (nS s P)))))=true from by rw[ht];decide)];unfold sV rE;rw[aMH];dsimp only;obtain⟨po,ro,hpo,hro,h5⟩:=aCO (c:=(xS s (nS s P),(c.2.1,(c.2.2.1,(c.2.2.2.1,()))))) (c2:=c2) (a:=a) (en:=(nS s (nS s P):Int)) (bad:=bad) (i1:=[]) (ids:=ids) (hd:=false) hsm hR hends hends;rw[hpo,aMH,show true= !false from rfl,hro,aMH];refine⟨_,_,rfl,rfl,?_⟩;rcases h5 with⟨P',sr,tg,cm,fg,st,fd,g1,g2,rfl,rfl,f1,f2,f3⟩ |⟨g1,g2,g3⟩
    ·exact .inl ⟨P',_,_,_,by omega,g2,rfl,rfl,f1,f3⟩
    ·exact .inr ⟨g1,g2,g3⟩
   ·rw[yE (by simp [ht]),wF (by decide)];rw[aMI (show (decide ((0:Int)=0)&& !val (some (tW (xS s (nS s P)))))=true from by rw[show tW (xS s (nS s P))=false from by simpa using ht];decide)];unfold qW;rw[uV];unfold rE;rw[aMH];dsimp only;obtain⟨po,hpo,h1,h2⟩:=GY (s:=s) (at0:=(nS s (nS s P):Int)) (c:=(xS s (nS s P),(c.2.1,(c.2.2.1,(c.2.2.2.1,()))))) (a:=(fS s (nS s P):Int)) (en:=(nS s P:Int)) (k:=kS s (nS s P)) (x:=xS s (nS s P)) (f:=(fS s (nS s P):Int)) (t:=(nS s (nS s P):Int)) (ids:=ids) (hd:=false) hends (show (3:Int)≠0 by decide);obtain⟨ro,hro,g1,g2⟩:=FL (P:=nS s (nS s P)) (c2:=c2) (bad:=(fS s (nS s P):Int)) (e:=3) (ends2:=ends) (hd:=true) (i:=i0 []) hsm hR (by decide);rw[hpo,aMH,hro,aMH];exact⟨_,_,rfl,rfl,.inr ⟨by show po.2.2.2.2.2.2.2.2.2.2.2.2.1≠0;rw[h2];decide,g1.trans h1.symm,g2.trans h2.symm⟩⟩
  ·rw[vA (by simpa using hk1),yE (by simp [hk1]),wF (by decide)];dsimp only;rw[LE _ (GV hsm hQ),aMI uH,aMK (show¬(decide ((3:Int)=0)&& !val (some (tW (xS s (nS s P)))))=true from by simp)];unfold rE;rw[aMH];dsimp only;obtain⟨po,hpo,h1,h2⟩:=GY (s:=s) (at0:=(nS s (nS s P):Int)) (c:=(xS s (nS s P),(c.2.1,(c.2.2.1,(c.2.2.2.1,()))))) (a:=(fS s (nS s P):Int)) (en:=(nS s P:Int)) (k:=kS s (nS s P)) (x:=xS s (nS s P)) (f:=(fS s (nS s P):Int)) (t:=(nS s (nS s P):Int)) (ids:=ids) (hd:=false) hends (show (3:Int)≠0 by decide);obtain⟨ro,hro,g1,g2⟩:=FL (P:=nS s P) (c2:=c2) (bad:=(fS s (nS s P):Int)) (e:=3) (ends2:=ends) (hd:=true) (i:=i0 []) hsm hQ (by decide);rw[hpo,aMH,hro,aMH];exact⟨_,_,rfl,rfl,.inr ⟨by show po.2.2.2.2.2.2.2.2.2.2.2.2.1≠0;rw[h2];decide,g1.trans h1.symm,g2.trans h2.symm⟩⟩
 ·rw[aMK h0,wF (by decide),vA (by simp only[aMS,aNz,aMQ,yF (show (2:Int)≠0 by decide) (show (2:Int)≠4 by decide)];intro hh;rcases hh with⟨u,v|v⟩;exact absurd v (by decide);exact h0 ⟨u,v⟩)]
  dsimp only;rw[aIL (by decide),aMH,FI hsm hP (by decide),aMH];dsimp only;rw[LE _ (GV hsm hP),aMI uH,aMK (show¬(decide ((3:Int)=0)&& !val (some (tW (xS s P))))=true from by simp)];unfold rE;rw[aMH];dsimp only;obtain⟨po,hpo,h1,h2⟩:=GY (s:=s) (at0:=(nS s P:Int)) (c:=(xS s P,(c.2.1,(c.2.2.1,(c.2.2.2.1,()))))) (a:=(fS s P:Int)) (en:=en) (k:=kS s P) (x:=xS s P) (f:=(fS s P:Int)) (t:=(nS s P:Int)) (ids:=ids) (hd:=false) hends (show (3:Int)≠0 by decide);obtain⟨ro,hro,g1,g2⟩:=FL (P:=P) (c2:=c2) (bad:=(fS s P:Int)) (e:=3) (ends2:=ends) (hd:=true) (i:=i0 []) hsm hP (by decide);rw[hpo,aMH,hro,aMH];exact⟨_,_,rfl,rfl,.inr ⟨by show po.2.2.2.2.2.2.2.2.2.2.2.2.1≠0;rw[h2];decide,g1.trans h1.symm,g2.trans h2.symm⟩⟩
end
theorem LM {α:Type}:pQ ([]:List α):=by unfold pQ;exact aNt _
theorem aJE {l:List UInt8}:(sL l).1=4↔l=[]:=by
 cases l with
 |nil=>exact⟨fun _=>rfl,fun _=>rfl⟩
 |cons b t=>
  refine⟨fun h=> ?_,fun h=>by cases h⟩;exfalso;by_cases h1:b=123\/b=125
  ·rw[DW h1] at h;exact absurd h (show¬(3:Int)=4 by decide)
  ·by_cases h2:b=34
   ·rw[C3 h1 h2] at h;unfold vH at h;cases he:s8 34 t with
    |none=>rw[he] at h;exact absurd h (show¬(0:Int)=4 by decide)
    |some n=>
     rw[he] at h;dsimp only at h;split at h
     ·exact absurd h (show¬(0:Int)=4 by decide)
     ·exact absurd h (show¬(1:Int)=4 by decide)
   ·by_cases h3:A0 b.toNat=true
    ·rw[C5 h1 h2 h3] at h;exact absurd h (show¬(2:Int)=4 by decide)
    ·rw[GT h1 h2 h3] at h;exact absurd h (show¬(0:Int)=4 by decide)
theorem k4 {s:List UInt8}{P:Nat}(hP:P<=s.length):kS s P=4↔¬P+(G (s.drop P)).1<s.length:=by
 unfold kS rY;by_cases hg:(G (s.drop P)).2=true
 ·rw[aMI hg];dsimp only;rw[aJE,aNo,List.drop_eq_nil_iff];omega
 ·rw[aMK hg];obtain⟨t,ht⟩:=OC (s.drop P).length (s.drop P) (aM2 _) (by simpa using hg);refine⟨fun h=>absurd h (show¬(0:Int)=4 by decide),fun h=> ?_⟩;rw[aNo,List.drop_eq_nil_of_le (by omega)] at ht;cases ht
def GZ (P:Nat) (ends:List Int):Prop:= ∃l:List Nat,ends=l.map (fun n:Nat=>(n:Int))/\l≠[]/\l.Pairwise (·<=·)/\∀x∈l,x<=P
theorem aJF {P P':Nat}{ends:List Int}(h:GZ P ends) (hP:P<=P'):GZ P' (ends++[(P':Int)]):=by
 obtain⟨l,rfl,h1,h2,h3⟩:=h;refine⟨l++[P'],by rw[List.map_append];rfl,List.append_ne_nil_of_right_ne_nil _ (List.cons_ne_nil _ _),?_,fun x hx=> ?_⟩
 ·rw[aOj];exact⟨h2,aOl _ _,fun x hx y hy=>by rw[aMW.1 hy];exact aNC (h3 x hx) hP⟩
 ·rcases aNE.1 hx with hx|hx
  ·exact aNC (h3 x hx) hP
  ·rw[aMW.1 hx];exact aM2 _
theorem aCT (P:Nat):GZ P [(P:Int)]:=⟨[P],rfl,List.cons_ne_nil _ _,aOl _ _,fun x hx=>by rw[aMW.1 hx];exact aM2 _⟩
theorem aJG {P P':Nat}{ends:List Int}(h:GZ P ends) (hP:P<=P'):GZ P' ends:=by
 obtain⟨l,h0,h1,h2,h3⟩:=h;exact⟨l,h0,h1,h2,fun x hx=>aNC (h3 x hx) hP⟩
def aJH (n:Nat) (po:E11) (ro:E5):Prop:=
 (po.2.2.2.2.2.2.1=0/\ro.2.2.1=0/\ro.2.2.2.1=po.2.2.2.2.2.2.2.1/\ro.2.2.2.2=po.2.2.2.2.2.2.2.2.1/\po.2.2.2.2.2.2.2.1.length<=1000/\(∀y∈po.2.2.2.2.2.2.2.1,IY y)/\GZ n po.2.2.2.2.2.2.2.2.1/\po.2.2.2.2.2.2.2.2.1.length<=1001)\/aCP po ro
section
variable {s:List UInt8}(hsm:s.length<=4000000000) {a bad:Int}{hp:H12}{hr:H7}
include hsm
theorem a4Y: ∀(n P:Nat) (es:List qT) (ends:List Int) (en:Int) (ids:List (List UInt8×Bool)),
  s.length-P<=n->P<=s.length->es.length<=1000->ends.length<=es.length+1->OJ ids es->(∀y∈es,IY y)->GZ P ends->
  ∃po ro,pR (BD s hp) ((nS s P:Int),kS s P,xS s P,(fS s P:Int),(nS s P:Int),a,0,es,ends,en,ids)=some po/\
   pR (tI s hr) ((P:Int),bad,0,es,ends)=some ro/\aJH s.length po ro
 |n,P,es,ends,en,ids,hn,hP,hes,hends,hids,hfs,hea=>by
  have hgap:=LJ (GU hsm) hP;by_cases hk:kS s P=4
  ·have hg:=(k4 hP).1 hk;have e1:BD s hp ((nS s P:Int),kS s P,xS s P,(fS s P:Int),(nS s P:Int),a,0,es,ends,en,ids)=some (.inr ((nS s P:Int),kS s P,xS s P,(fS s P:Int),(nS s P:Int),a,0,es,ends,en,ids)):=by
    unfold BD;dsimp only;rw[aMK (by simp [hk])]
   have e2:tI s hr ((P:Int),bad,0,es,ends)=some (.inr ((P:Int),bad,0,es,ends)):=by
    unfold tI;dsimp only;rw[hgap,aMI uH,aMK (by show¬(decide ((0:Int)=0)&&decide (((P+(G (s.drop P)).1:Nat):Int)<(s.length:Int)))=true;simp;omega)]
   rw[tJ e1,tJ e2];exact⟨_,_,rfl,rfl,.inl ⟨rfl,rfl,rfl,rfl,hes,hfs,aJG hea hP,(show ends.length<=1001 by omega)⟩⟩
  ·have hg:P+(G (s.drop P)).1<s.length:=by
    by_cases hh:P+(G (s.drop P)).1<s.length
    ·exact hh
    ·exact absurd ((k4 hP).2 hh) hk
   obtain⟨po,ro,hpo,hro,hres⟩:=XA (a:=a) (en:=en) (bad:=bad) (t1:=hp.2.2.2.2.2.2.2.1) (t2:=hr.2.2.2.1) (cm1:=hp.2.2.2.2.2.2.2.2.1) (cm2:=hr.2.2.2.2.1) (fd1:=hp.2.2.2.2.2.2.2.2.2.1) (fd2:=hr.2.2.2.2.2.1) hsm hP (show ends.length<=5000 by omega) hids hes;have e1:BD s hp ((nS s P:Int),kS s P,xS s P,(fS s P:Int),(nS s P:Int),a,0,es,ends,en,ids)=some (.inl po):=by
    unfold BD;dsimp only;rw[aMI (by simp [hk]),hpo,aMH]
   have e2:tI s hr ((P:Int),bad,0,es,ends)=some (.inl ro):=by
    unfold tI;dsimp only;rw[hgap,aMI uH,aMI (by show (decide ((0:Int)=0)&&decide (((P+(G (s.drop P)).1:Nat):Int)<(s.length:Int)))=true;simp;omega),hro,aMH]
   rw[D4 e1,D4 e2];rcases hres with⟨P',y,ids',g1,g2,g3,g4,rfl,rfl,g5⟩ |hb
   ·match n,hn with
    |0,hn=>exact absurd g2 (by omega)
    |n+1,hn=>exact a4Y n P' (es++[y]) (ends++[(P':Int)]) P' ids' (by omega) g2 (by simp;omega) (by simp;omega) g4 (fun z hz=>by rcases aNE.1 hz with hz|hz;exact hfs z hz;rw[aMW.1 hz];exact g5) (aJF hea (by omega))
   ·have e3:BD s hp po=some (.inr po):=by
     unfold BD;dsimp only;rw[aMK (by simp [hb.1])]
    have e4:tI s hr ro=some (.inr ro):=by
     have h3:ro.2.2.1≠0:=by rw[hb.2.2];exact hb.1
     unfold tI;dsimp only;rw[aMI (by intro hh;simp [h3] at hh),aMK (by simp [h3])]
    rw[tJ e3,tJ e4];exact⟨_,_,rfl,rfl,.inr hb⟩
theorem aJI: ∃r v,uT s=some r/\C1 s=some v/\
  ((r.2.2.2.2.2.2.1=0/\v.2.2.2.2.2.2=0/\v.2.2.2.2.1=r.2.2.2.2.2.2.2.2.2.2.2.1/\GZ s.length r.2.2.2.2.2.2.2.2.2.2.2.1/\r.2.2.2.2.2.2.2.2.2.2.2.1.length<=1001)\/(r.2.2.2.2.2.2.1≠0/\v.2.2.2.2.2.2=r.2.2.2.2.2.2.1)):=by
 obtain⟨ph,rh,hph,hrh,hres⟩:=aCS (P:=0) (a:=0) (en:=0) (bad:=0) (c:=([],([],([],([],()))))) (c2:=([],([],([],([],()))))) (ends:=[]) (ids:=[]) hsm (aNt _) (by decide);have hnx:=a4N hsm (aNt s.length);have hnx':AN (s,((0:Int),()))=some (kS s 0,xS s 0,(fS s 0:Int),(nS s 0:Int),(nS s 0:Int)):=hnx;have hrh':BZ (s,((0:Int),((0:Int),((0:Int),((([]:List UInt8),(([]:List (List UInt8)),(([]:List pL),(([]:List qT),())))),(([]:List Int),()))))))=some rh:=hrh;unfold uT C1;rw[hnx',aMH]
 try dsimp only
 rw[hph,aMH,hrh',aMH];rcases hres with⟨P',tag,cm,fd,g1,g2,rfl,rfl,f1,f2⟩ |hb
 ·obtain⟨po,ro,h1,h2,h3⟩:=a4Y (a:=0) (bad:=0) (hp:=((nS s P':Int),kS s P',xS s P',(fS s P':Int),(nS s P':Int),0,0,tag,cm,fd,[]++[(P':Int)],(P':Int))) (hr:=((P':Int),0,0,tag,cm,fd,[]++[(P':Int)])) hsm s.length P' [] ([]++[(P':Int)]) (P':Int) [] (by omega) g2 (by decide) (by simp) (fun _=>rfl) (fun _ h=>by cases h) (aCT P')
  try dsimp only
  rw[h1,h2];unfold rE;rw[aMH,aMH]
  try dsimp only
  rcases h3 with⟨e1,e2,e3,e4,e5,e6,e7,e8⟩ |⟨e1,e2,e3⟩
  ·rw[aMK (by simp [e2])];exact⟨_,_,rfl,rfl,.inl ⟨e1,rfl,e4,e7,e8⟩⟩
  ·rw[aMI (by simp [e3,e1])];exact⟨_,_,rfl,rfl,.inr ⟨e1,e3⟩⟩
 ·obtain⟨b1,b2,b3⟩:=hb;have e3:BD s ph (ph.1,ph.2.1,ph.2.2.1,ph.2.2.2.1,ph.2.2.2.2.1,ph.2.2.2.2.2.1,ph.2.2.2.2.2.2.1,[],ph.2.2.2.2.2.2.2.2.2.2.1,ph.2.2.2.2.2.2.2.2.2.2.2,[])=some (.inr (ph.1,ph.2.1,ph.2.2.1,ph.2.2.2.1,ph.2.2.2.2.1,ph.2.2.2.2.2.1,ph.2.2.2.2.2.2.1,[],ph.2.2.2.2.2.2.2.2.2.2.1,ph.2.2.2.2.2.2.2.2.2.2.2,[])):=by
   unfold BD
   try dsimp only
   rw[aMK (by simp [b1])]
  have e4:tI s rh (rh.1,rh.2.1,rh.2.2.1,[],rh.2.2.2.2.2.2)=some (.inr (rh.1,rh.2.1,rh.2.2.1,[],rh.2.2.2.2.2.2)):=by
   have h3:rh.2.2.1≠0:=by rw[b3];exact b1
   unfold tI
   try dsimp only
   rw[aMI (by intro hh;simp [h3] at hh),aMK (by simp [h3])]
  rw[tJ e3,tJ e4];unfold rE;rw[aMH,aMH]
  try dsimp only
  rw[aMI (by simp [b3,b1])];exact⟨_,_,rfl,rfl,.inr ⟨b1,b3⟩⟩
end
set_option maxRecDepth 1000000
theorem aJJ:LA=some true:=by kernel_rfl
theorem aCU {σ ρ:Type}{f:σ->Option (σ⊕ρ)}{n:Nat}(st:Nat->σ) {r:ρ}(h: ∀i,i<n->f (st i)=some (.inl (st (i+1)))) (he:f (st n)=some (.inr r)): ∀(k i:Nat),i+k=n->pR f (st i)=some r
 |0,i,hi=>by
  have:i=n:=by omega
  subst this;exact tJ he
 |k+1,i,hi=>by
  rw[D4 (h i (by omega))];exact aCU st h he k (i+1) (by omega)
abbrev pc (s:List UInt8) (l:List Nat) (i:Nat):List UInt8:=pE s ((if i=0 then 0 else l.getD (i-1) 0:Nat):Int) (l.getD i 0:Nat)
abbrev BL (s:List UInt8) (l:List Nat):List (List UInt8):=(List.range l.length).map (pc s l)
abbrev FM (l:List Nat):Nat:=l.getD (l.length-1) 0
section
variable {s:List UInt8}(hsm:s.length<=4000000000) {l:List Nat}(hne:l≠[]) (hs:l.Pairwise (·<=·)) (hle: ∀x∈l,x<=s.length) (hl:l.length<=5000)
theorem TO {i:Nat}(h:i<l.length):qG (.int .i64) (l.map (fun n:Nat=>(n:Int))) (i:Int)=(l.getD i 0:Nat):=by
 rw[y3 (t:= .int .i64) (by simpa using h),List.getElem_map,aNa,aMR h];rfl
include hle in
theorem TP {i:Nat}(h:i<l.length):l.getD i 0<=s.length:=by
 rw[aNa,aMR h];exact hle _ (aNR h)
include hs in
theorem aCV {i j:Nat}(hij:i<j) (h:j<l.length):l.getD i 0<=l.getD j 0:=by
 rw[aNa,aNa,aMR h,aMR (by omega)];exact(aNX.1 hs) i j (by omega) h hij
include hs in
include hsm hne hs hle hl in
include hsm hne hs hle hl in
theorem aJK {r:Int×Int×List UInt8×Int×Int×Int×Int×List UInt8×List (List UInt8)×List pL×List qT×List Int×Int×List (List UInt8×Bool)}(hr:r.2.2.2.2.2.2.2.2.2.2.2.1=l.map (fun n:Nat=>(n:Int))):
  pR (L9 s r) (1,[])=some ((BL s l).drop 1):=by
 have hpos:0<l.length:=aOm.2 hne;have hloop:=aCU (f:=L9 s r) (n:=l.length-1) (fun i=>(((i+1:Nat):Int),((List.range (i+1)).map (pc s l)).drop 1)) (r:=(BL s l).drop 1)
  (fun i hi=>by
   have h1:=TP hle (show i+1<l.length by omega);have h2:=aCV hs (show i<i+1 by omega) (show i+1<l.length by omega);unfold L9;dsimp only;rw[hr,aN7,aMI (uF (by omega)),aMI (by unfold p8;omega),show (((i+1:Nat):Int)-1)=(i:Int) by omega,aMI (rX (by omega)),aMI (rX (by omega)),TO (show i<l.length by omega),TO (show i+1<l.length by omega),aMI ⟨Int.natCast_nonneg _,Int.ofNat_le.2 h2,Int.ofNat_le.2 h1⟩,aMI (by rw[aMP,aN7,List.length_range,aNI];omega),aMI (sR (by omega))];rw[List.range_succ (n:=i+1),List.map_append,List.drop_append_of_le_length (by simp)];rfl)
  (by
   unfold L9;dsimp only;rw[hr,aN7,show l.length-1+1=l.length by omega,aMK (zG _)]) (l.length-1) 0 (by omega)
 exact hloop
include hsm hne hs hle hl in
theorem aJL {r:Int×Int×List UInt8×Int×Int×Int×Int×List UInt8×List (List UInt8)×List pL×List qT×List Int×Int×List (List UInt8×Bool)}(h:uT s=some r) (he:r.2.2.2.2.2.2.1=0) (hr:r.2.2.2.2.2.2.2.2.2.2.2.1=l.map (fun n:Nat=>(n:Int))):
  BE s=some (pc s l 0,(BL s l).drop 1,pE s (FM l:Nat) (s.length:Int),0):=by
 have hpos:0<l.length:=aOm.2 hne;have h0:=TP hle hpos;have hlast:FM l<=s.length:=TP hle (show l.length-1<l.length by omega);unfold BE;rw[h,aMH,aMK (by simp [he]),aJK hsm hne hs hle hl hr,hr,aN7,aMI ⟨aNy _,by omega⟩];have n0:qG (.int .i64) (l.map (fun n:Nat=>(n:Int))) (0:Int)=(l.getD 0 0:Nat):=TO hpos;have n1:qG (.int .i64) (l.map (fun n:Nat=>(n:Int))) ((l.length:Int)-1)=(FM l:Nat):=by
  rw[show ((l.length:Int)-1)=((l.length-1:Nat):Int) by omega];exact TO (by omega)
 rw[n0,n1,aMI ⟨aNy _,Int.natCast_nonneg _,Int.ofNat_le.2 h0⟩,aMI (by unfold p8;omega),aMI ⟨by omega,by omega⟩,aMI ⟨Int.natCast_nonneg _,Int.ofNat_le.2 hlast,aNy _⟩];rfl
end
theorem aJM {c:C4}(hok:C8 c=true) {i:Nat}(hi:i<c.2.2.2.1.length):GR (c.2.2.2.1.getD i eD)=true:=by
 unfold C8 at hok;simp only[aMS,aNh,aNG,aOp] at hok;have:=hok.2.2 i hi;unfold OK at this;simp only[aNz,aNh,not_or,Bool.not_eq_false] at this;exact this.2
theorem aCW {x y b:UInt8}{t:List UInt8}(h:b≠x): ¬rL x y (b::t)=true:=by
 cases t with
 |nil=>simp [rL]
 |cons c u=>simp [rL,h]
structure At (s:List UInt8) (P:Nat) (l:List UInt8):Prop where
 le:P<=s.length
 eq:s.drop P=l
theorem aJN {l:List UInt8}(h: ∀b∈l,b.toNat<128):Lib.validD l=true:=by
 rw[Lib.validD_ascii l.length l (fun b hb=>h b (List.mem_of_mem_take hb)),aNu];rfl
theorem aJO {b:UInt8}(h:xF b.toNat=false):b.toNat<128:=by
 unfold xF at h;simp only[aOv,aOt,aMS,aMQ] at h;omega
theorem aCX {x:List UInt8}(h:rT x=true):tK x=true:=by
 cases x with
 |nil=>cases h
 |cons b t=>
  unfold rT at h;simp only[aMS,aNh,aNG,aNZ,aNr] at h;obtain⟨⟨h0,h1⟩,h2⟩:=h;unfold tK;rw[aMS,aMQ];refine⟨by simp only[aMO];omega,aJN fun c hc=> ?_⟩;rcases aM1.1 hc with rfl|hc
  ·unfold yA at h1;simp only[aMS,aMQ] at h1;omega
  ·exact aJO (h2 c hc)
theorem TQ {l:List (List UInt8)}(h:C2 l=true):l.length<=20/\∀x∈l,tK x=true:=by
 unfold C2 at h;simp only[aMS,aNh,aNG,aMQ,aNZ,aOt] at h;exact⟨by omega,fun x hx=>by simpa using h.2 x hx⟩
theorem aCY {α:Type}{r:α->α->Prop}(tr: ∀a b c,r a b->r b c->r a c) {l:List α}(h: ∀(i:Nat) (hi:i+1<l.length),r l[i] l[i+1]):l.Pairwise r:=by
 rw[aNX];intro i j hi hj hij;obtain⟨k,rfl⟩: ∃k,j=i+1+k:=⟨j-i-1,by omega⟩
 induction k with
 |zero=>exact h i hj
 |succ k ih=>exact tr _ _ _ (ih (by omega) (by omega)) (h (i+1+k) hj)
theorem BM {α:Type}{l:List α}{i:Nat}{d:α}(h:i<l.length):l.getD i d=l[i]:=by
 rw[aNa,aMR h];rfl
theorem TR {l:List (List UInt8)}(h:GQ l=true):l.length<=20/\(∀x∈l,rT x=true)/\l.Pairwise (· < ·):=by
 unfold GQ at h;simp only[aMS,aNh,aNG,aMQ,aOp,aNZ] at h;obtain⟨h1,h2⟩:=h;unfold a4C at h1;simp only[aOb,aOv,aOt,aNr] at h1;refine⟨by omega,fun x hx=> ?_,aCY (r:=fun a b:List UInt8=>a<b) (fun a b c=>List.lt_trans) fun i hi=> ?_⟩
 ·obtain⟨i,hi,rfl⟩:=aOE hx;have:=(h1 i hi).1;rwa [BM hi] at this
 ·have:=(h1 (i+1) hi).2;rw[BM hi,Nat.add_sub_cancel,BM (show i<l.length by omega),D2] at this;exact aNq (this.resolve_left (by omega))
theorem OL {l:List rC}(h:BG l=true):l.length<=20/\(∀x∈l,rT x.1=true/\tK x.1=true/\tK x.2.1=true)/\l.Pairwise (fun a b=>a.1<b.1):=by
 unfold BG at h;simp only[aMS,aNh,aNG,aMQ,aOp,aNZ] at h;obtain⟨h1,h2⟩:=h;unfold a4D at h1;simp only[aOb,aOv,aOt,aNr] at h1;refine⟨by omega,fun x hx=> ?_,aCY (r:=fun a b:rC=>a.1<b.1) (fun a b c=>List.lt_trans) fun i hi=> ?_⟩
 ·obtain⟨i,hi,rfl⟩:=aOE hx;have:=(h1 i hi).1;rw[BM hi] at this;exact⟨this.1,aCX this.1,this.2⟩
 ·have:=(h1 (i+1) hi).2;rw[BM hi,Nat.add_sub_cancel,BM (show i<l.length by omega),D2] at this;exact aNq (this.resolve_left (by omega))
theorem aJP {es:List tY}(h: ∀i,i<es.length->OK es i=false):es.Pairwise (fun a b=>a.1≠b.1):=by
 rw[aNX];intro i j hi hj hij he;have h1:=h j hj;unfold OK at h1;simp only[aOb,aNG,aMQ] at h1;rw[BM hj] at h1;exact h1.1 es[i] (by rw[List.mem_take_iff_getElem];exact⟨i,by omega,rfl⟩) he
theorem aCZ {c:C4}(h:C8 c=true):tW c.1=true/\C2 c.2.1=true/\BG c.2.2.1=true/\c.2.2.2.1.length<=1000/\(∀x∈c.2.2.2.1,GR x=true)/\c.2.2.2.1.Pairwise (fun a b=>a.1≠b.1):=by
 have h':=h;unfold C8 at h';simp only[aMS,aNh,aNG,aOp,aMQ,aNZ] at h';obtain⟨⟨⟨h1,h2⟩,h3⟩,h4,h5⟩:=h';refine⟨h1,h2,h3,by omega,fun x hx=> ?_,aJP h5⟩;obtain⟨i,hi,rfl⟩:=aOE hx;have:=aJM h hi;rwa [BM hi] at this
theorem aJQ {l:List UInt8}(h:(sL l).1=1):tK (sL l).2.1=true:=by
 cases l with
 |nil=>exact absurd h (show¬(4:Int)=1 by decide)
 |cons b t=>
  by_cases h1:b=123\/b=125
  ·rw[DW h1] at h;exact absurd h (show¬(3:Int)=1 by decide)
  ·by_cases h2:b=34
   ·rw[C3 h1 h2] at h⊢;unfold vH at h⊢;cases he:s8 34 t with
    |none=>rw[he] at h;exact absurd h (show¬(0:Int)=1 by decide)
    |some n=>
     rw[he] at h;dsimp only at h⊢;by_cases hb:(yB 3 (t.take n)).2.2≠0\/tK (yB 3 (t.take n)).1=false
     ·rw[aMI hb] at h;exact absurd h (show¬(0:Int)=1 by decide)
     ·rw[aMK hb];cases hx:tK (yB 3 (t.take n)).1 with
      |true=>rfl
      |false=>exact absurd (.inr hx) hb
   ·by_cases h3:A0 b.toNat=true
    ·rw[C5 h1 h2 h3] at h;exact absurd h (show¬(2:Int)=1 by decide)
    ·rw[GT h1 h2 h3] at h;exact absurd h (show¬(0:Int)=1 by decide)
theorem OM {s:List UInt8}{P:Nat}(h:kS s P=1):tK (xS s P)=true:=by
 unfold kS at h;unfold xS;unfold rY at h⊢;by_cases hg:(G (s.drop P)).2=true
 ·rw[aMI hg] at h⊢;exact aJQ h
 ·rw[aMK hg] at h;exact absurd h (show¬(0:Int)=1 by decide)
theorem aJR {a b:List UInt8}(h: ¬a<b) (hne:a≠b):b<a:=by
 have:=aH8 a b;rw[D2,D2] at this;have h1:decide (a<b)=false:=by simpa using h
 have h2:decide (b=a)=false:=by simpa using fun e=>hne e.symm
 rw[h1,h2] at this;simpa using this.symm
theorem a4Z {α:Type}(f:α->List UInt8) {x:α}{p:α->Bool}: ∀{l:List α},l.Pairwise (fun a b=>f a<f b)->(∀y∈l,f y≠f x)->(∀y∈l,p y= !decide (f y<f x))->
  (l.take ((l.findIdx? p).getD l.length)++[x]++l.drop ((l.findIdx? p).getD l.length)).Pairwise (fun a b=>f a<f b)
 |[],_,_,_=>by simp
 |a::t,hp,hne,hpp=>by
  rw[aOr] at hp;have hpa:=hpp a aNf;rw[aND];by_cases h:f a<f x
  ·have hpf:p a=false:=by rw[hpa];simpa using h
   rw[hpf];have ih:=a4Z f (x:=x) hp.2 (fun y hy=>hne y (aM4 _ hy)) (fun y hy=>hpp y (aM4 _ hy));have e:((if false=true then some 0 else(t.findIdx? p).map fun i=>i+1).getD (a::t).length)=(t.findIdx? p).getD t.length+1:=by
    cases t.findIdx? p<;>rfl
   rw[e,List.take_succ_cons,aOF,List.cons_append,List.cons_append,aOr];refine⟨fun y hy=> ?_,ih⟩;rw[aMU] at hy;rcases aNE.1 hy with hy|hy
   ·exact hp.1 y (List.mem_of_mem_take hy)
   ·rcases aM1.1 hy with rfl|hy
    ·exact h
    ·exact hp.1 y (List.mem_of_mem_drop hy)
  ·have hpt:p a=true:=by rw[hpa];simpa using h
   rw[hpt];have hx:f x<f a:=aJR h (hne a aNf);show ([]++[x]++(a::t)).Pairwise _;rw[List.nil_append,aN6,aOr];refine⟨fun y hy=> ?_,aOr.2 hp⟩;rcases aM1.1 hy with rfl|hy
   ·exact hx
   ·exact List.lt_trans hx (hp.1 y hy)
theorem aC0 {α:Type}{l:List α}{x y:α}{k:Nat}(h:y∈l.take k++[x]++l.drop k):y=x\/y∈l:=by
 rw[aMU] at h;rcases aNE.1 h with h|h
 ·exact .inr (List.mem_of_mem_take h)
 ·rcases aM1.1 h with h|h
  ·exact .inl h
  ·exact .inr (List.mem_of_mem_drop h)
theorem aC1 {α:Type}{l:List α}{x:α}{k:Nat}:(l.take k++[x]++l.drop k).length=l.length+1:=by
 simp only[aMN,aM5,aMP,aNI];omega
theorem aJS {l:List (List UInt8)}(h:l.length<=20) (hx: ∀x∈l,tK x=true):C2 l=true:=by
 unfold C2;simp only[aMS,aNh,aNG,aMQ,aOt,aNZ];exact⟨by omega,fun x hxl=>by simpa using hx x hxl⟩
theorem aC2 {α:Type}{r:α->α->Prop}{l:List α}(h:l.Pairwise r) {i:Nat}(h0:0<i) (hi:i<l.length):r l[i-1] l[i]:=by
 rw[aNX] at h;exact h (i-1) i (by omega) hi (by omega)
theorem aJT {l:List (List UInt8)}(h:l.length<=20) (hx: ∀x∈l,rT x=true) (hp:l.Pairwise (· < ·)):GQ l=true:=by
 unfold GQ;simp only[aMS,aNh,aNG,aMQ,aOp,aNZ];refine⟨fun i hi=> ?_,by omega⟩;unfold a4C;rw[BM hi,hx _ (aNR hi)];by_cases h0:0<i
 ·rw[BM (show i-1<l.length by omega),D2];simp [aC2 hp h0 hi]
 ·simp [h0]
theorem aJU {l:List rC}(h:l.length<=20) (hx: ∀x∈l,rT x.1=true/\tK x.2.1=true) (hp:l.Pairwise (fun a b=>a.1<b.1)):BG l=true:=by
 unfold BG;simp only[aMS,aNh,aNG,aMQ,aOp,aNZ];refine⟨fun i hi=> ?_,by omega⟩;unfold a4D;obtain⟨a,b⟩:=hx _ (aNR hi);rw[BM hi,a,b];by_cases h0:0<i
 ·rw[BM (show i-1<l.length by omega),D2];simp [aC2 hp h0 hi]
 ·simp [h0]
theorem aJV {l:List (List UInt8)}{x:List UInt8}(h:C2 l=true) (hl: ¬20<=l.length) (hx:tK x=true):C2 (l++[x])=true:=by
 obtain⟨h1,h2⟩:=TQ h;refine aJS (by rw[aMN,aNI];omega) fun y hy=> ?_;rcases aNE.1 hy with hy|hy
 ·exact h2 y hy
 ·rw[aMW.1 hy];exact hx
theorem aJW {l:List (List UInt8)}{x:List UInt8}(h:GQ l=true) (hl: ¬20<=l.length) (hx:rT x=true) (hn: ¬(l.any fun y=>decide (y=x))=true):GQ (DY l x)=true:=by
 obtain⟨h1,h2,h3⟩:=TR h;have hne: ∀y∈l,y≠x:=fun y hy e=>hn (List.any_eq_true.2 ⟨y,hy,by simp [e]⟩);unfold DY xJ;refine aJT (by rw[aC1];omega) (fun y hy=> ?_) (a4Z (fun y=>y) h3 hne fun y _=>by rw[D2]);rcases aC0 hy with rfl|hy
 ·exact hx
 ·exact h2 y hy
theorem aJX {l:List rC}{n v:List UInt8}(h:BG l=true) (hl: ¬20<=l.length) (hx:rT n=true) (hv:tK v=true) (hn: ¬(l.any fun y=>decide (y.1=n))=true):BG (AQ l n v)=true:=by
 obtain⟨h1,h2,h3⟩:=OL h;have hne: ∀y∈l,y.1≠n:=fun y hy e=>hn (List.any_eq_true.2 ⟨y,hy,by simp [e]⟩);have hk:zX l n=none:=by
  unfold zX;rw[aOz];intro y hy;simpa using hne y hy
 unfold AQ;rw[hk];show BG (l.take (FE l n)++[(n,v,())]++l.drop (FE l n))=true;unfold FE;refine aJU (by rw[aC1];omega) (fun y hy=> ?_) (a4Z (fun y:rC=>y.1) (x:=(n,v,())) h3 hne fun y hy=> ?_)
 ·rcases aC0 hy with rfl|hy
  ·exact⟨hx,hv⟩
  ·exact⟨(h2 y hy).1,(h2 y hy).2.2⟩
 ·rw[D2];have:decide (y.1=n)=false:=by simpa using hne y hy
  rw[this,Bool.or_false]
structure H0 (sr tg:List UInt8) (cm fg:List (List UInt8)) (st:Int) (fd:List rC):Prop where
 sr:tK sr=true
 tg:tK tg=true
 cm:C2 cm=true
 fg:GQ fg=true
 st:0<=st/\st<=4
 fd:BG fd=true
theorem a40:H0 [] [] [] [] 0 []:=⟨by decide,by decide,by decide,by decide,by decide,by decide⟩
theorem aJY (x:List UInt8) (h: ¬sS x<0):0<=sS x/\sS x<=4:=by
 refine⟨by omega,?_⟩;unfold sS at h⊢;cases hk:BF.findIdx? fun y=>decide (y=x) with
 |none=>exact show ((-1:Int))<=4 by decide
 |some k=>
  have hl:k<BF.length:=(aNl.1 hk).1;have hl':BF.length=5:=rfl;show ((k:Nat):Int)<=4;omega
section
variable {s:List UInt8}(hsm:s.length<=4000000000) {c:C4}{bad bad0 at0 e0:Int}{ends:List Int}{i:qT}{hd:Bool}
include hsm
def aJZ (s:List UInt8) (P:Nat) (bad:Int) (rs:FK):Prop:=
 rs.2.2.1≠0\/∃(P':Nat) (sr tg:List UInt8) (cm fg:List (List UInt8)) (st:Int) (fd:List rC) (d1 d2 d3:Bool),P<P'/\P'<=s.length/\rs=((P':Int),bad,0,sr,tg,cm,fg,st,fd,d1,d2,d3)/\H0 sr tg cm fg st fd
theorem aC3 {P:Nat}{sr tg:List UInt8}{cm fg:List (List UInt8)}{st:Int}{fd:List rC}{d1 d2 d3:Bool}(hP:P<=s.length) (hk:kS s P=2) (h:H0 sr tg cm fg st fd):
  ∃rs:FK,w4 (s,(at0,(bad0,(e0,(c,(ends,())))))) i hd ((P:Int),bad,0,sr,tg,cm,fg,st,fd,d1,d2,d3)=some (.inl rs)/\aJZ s P bad rs:=by
 have hPQ:P<nS s P:=uW (by omega) (by omega);have hQ:=(rU hP).2;have hR:=rU hQ;rw[D3 hsm hP hk];have hcl:=(TQ h.cm).1;have hfl:=(TR h.fg).1;have hdl:=(OL h.fd).1;have e3:(3:Int)≠0:=by decide
 have e6:(6:Int)≠0:=by decide
 have e9:(9:Int)≠0:=by decide
 by_cases h1:xS s P=w5
 ·by_cases h20:20<=cm.length
  ·rw[a4P hsm hQ h1 h20,aMH];exact⟨_,rfl,.inl e6⟩
  ·rw[TF hsm hQ h1 h20,aMH];by_cases k1:kS s (nS s P)=1
   ·rw[aMI k1];exact⟨_,rfl,.inr ⟨nS s (nS s P),_,_,_,_,_,_,_,_,_,by omega,by omega,rfl,h.sr,h.tg,aJV h.cm h20 (OM k1),h.fg,h.st,h.fd⟩⟩
   ·rw[aMK k1];exact⟨_,rfl,.inl e3⟩
 ·by_cases h2:xS s P=xK
  ·rw[TG hsm hQ h2 (by omega),aMH];unfold DX;by_cases k1:kS s (nS s P)≠1
   ·rw[aMI k1];exact⟨_,rfl,.inl e3⟩
   ·rw[aMK k1];by_cases k2:rT (xS s (nS s P))=false
    ·rw[aMI k2];exact⟨_,rfl,.inl e3⟩
    ·rw[aMK k2];by_cases k3:(fd.any fun y=>decide (y.1=xS s (nS s P)))=true
     ·rw[aMI k3];exact⟨_,rfl,.inl e9⟩
     ·rw[aMK k3];by_cases k4:20<=fd.length
      ·rw[aMI k4];exact⟨_,rfl,.inl e6⟩
      ·rw[aMK k4];have hS:=rU hR.2;by_cases k5:kS s (nS s (nS s P))≠1
       ·rw[aMI k5];exact⟨_,rfl,.inl e3⟩
       ·rw[aMK k5];exact⟨_,rfl,.inr ⟨nS s (nS s (nS s P)),_,_,_,_,_,_,_,_,_,by omega,by omega,rfl,h.sr,h.tg,h.cm,h.fg,h.st,aJX h.fd k4 (by simpa using k2) (OM (by omega)) k3⟩⟩
  ·cases hd with
   |true=>
    rw[a4Q hsm hQ h1 h2,aMH];exact⟨_,rfl,.inl e3⟩
   |false=>
    by_cases h3:xS s P=BK
    ·rw[TH hsm hQ h3 (by omega),aMH];unfold DZ;by_cases k1:kS s (nS s P)≠2
     ·rw[aMI k1];exact⟨_,rfl,.inl e3⟩
     ·rw[aMK k1];by_cases k2:rT (xS s (nS s P))=false
      ·rw[aMI k2];exact⟨_,rfl,.inl e3⟩
      ·rw[aMK k2];by_cases k3:(fg.any fun y=>decide (y=xS s (nS s P)))=true
       ·rw[aMI k3];exact⟨_,rfl,.inl e9⟩
       ·rw[aMK k3];by_cases k4:20<=fg.length
        ·rw[aMI k4];exact⟨_,rfl,.inl e6⟩
        ·rw[aMK k4];exact⟨_,rfl,.inr ⟨nS s (nS s P),_,_,_,_,_,_,_,_,_,by omega,by omega,rfl,h.sr,h.tg,h.cm,aJW h.fg k4 (by simpa using k2) k3,h.st,h.fd⟩⟩
    ·rw[FJ hsm hQ h1 h2 h3,aMH];by_cases k0:((decide (xS s P=sN)&&d1)||(decide (xS s P=sO)&&d2)||(decide (xS s P=sX)&&d3))=true
     ·rw[aMI k0];exact⟨_,rfl,.inl e9⟩
     ·rw[aMK k0];by_cases a1:xS s P=sN
      ·rw[aMI a1];by_cases k1:kS s (nS s P)=1
       ·rw[aMI k1];exact⟨_,rfl,.inr ⟨nS s (nS s P),_,_,_,_,_,_,_,_,_,by omega,by omega,rfl,OM k1,h.tg,h.cm,h.fg,h.st,h.fd⟩⟩
       ·rw[aMK k1];exact⟨_,rfl,.inl e3⟩
      ·rw[aMK a1];by_cases a2:xS s P=sO
       ·rw[aMI a2];by_cases k1:kS s (nS s P)=1
        ·rw[aMI k1];exact⟨_,rfl,.inr ⟨nS s (nS s P),_,_,_,_,_,_,_,_,_,by omega,by omega,rfl,h.sr,OM k1,h.cm,h.fg,h.st,h.fd⟩⟩
        ·rw[aMK k1];exact⟨_,rfl,.inl e3⟩
       ·rw[aMK a2];by_cases a3:xS s P=sX
        ·rw[aMI a3];by_cases k1:kS s (nS s P)=2
         ·rw[aMI k1];by_cases k2:sS (xS s (nS s P))<0
          ·rw[aMI k2];exact⟨_,rfl,.inl e3⟩
          ·rw[aMK k2];exact⟨_,rfl,.inr ⟨nS s (nS s P),_,_,_,_,_,_,_,_,_,by omega,by omega,rfl,h.sr,h.tg,h.cm,h.fg,aJY _ k2,h.fd⟩⟩
         ·rw[aMK k1];exact⟨_,rfl,.inl e3⟩
        ·rw[aMK a3];exact⟨_,rfl,.inl e3⟩
def aJ0 (s:List UInt8) (P:Nat) (bad:Int) (ends:List Int) (ro:S9⊕E2):Prop:=
 (∃r9,ro= .inl r9/\r9.2.2.1≠0)\/(∃r10,ro= .inr r10/\r10.2.2.1≠0)\/
 ∃(P':Nat) (sr tg:List UInt8) (cm fg:List (List UInt8)) (st:Int) (fd:List rC),P<P'/\P'<=s.length/\ro= .inr ((P':Int),bad,0,ends++[(P':Int)],sr,tg,cm,fg,st,fd)/\H0 sr tg cm fg st fd
theorem TS (he:ends.length<=5000): ∀(n P:Nat) (sr tg:List UInt8) (cm fg:List (List UInt8)) (st:Int) (fd:List rC) (d1 d2 d3:Bool),s.length-P<=n->P<=s.length->H0 sr tg cm fg st fd->
  ∃ro,pR (w4 (s,(at0,(bad0,(e0,(c,(ends,())))))) i hd) ((P:Int),bad,0,sr,tg,cm,fg,st,fd,d1,d2,d3)=some ro/\aJ0 s P bad ends ro
 |n,P,sr,tg,cm,fg,st,fd,d1,d2,d3,hn,hP,h=>by
  by_cases hk:kS s P=2
  ·obtain⟨rs,h1,h2⟩:=aC3 (c:=c) (bad:=bad) (bad0:=bad0) (at0:=at0) (e0:=e0) (ends:=ends) (i:=i) (hd:=hd) (d1:=d1) (d2:=d2) (d3:=d3) hsm hP hk h;rw[D4 h1];rcases h2 with h2|⟨P',sr',tg',cm',fg',st',fd',d1',d2',d3',p1,p2,rfl,h3⟩
   ·obtain⟨p,b,e,q1,q2,q3,q4,q5,q6,q7,q8,q9⟩:=rs;rw[tJ (IX h2)];exact⟨_,rfl,.inl ⟨_,rfl,h2⟩⟩
   ·match n,hn with
    |0,hn=>exact absurd p2 (by omega)
    |n+1,hn=>
     obtain⟨ro,r1,r2⟩:=TS he n P' sr' tg' cm' fg' st' fd' d1' d2' d3' (by omega) p2 h3;refine⟨ro,r1,?_⟩;rcases r2 with r2|r2|⟨P2,a1,a2,a3,a4,a5,a6,g1,g2,g3,g4⟩
     ·exact .inl r2
     ·exact .inr (.inl r2)
     ·exact .inr (.inr ⟨P2,a1,a2,a3,a4,a5,a6,by omega,g2,g3,g4⟩)
  ·by_cases hx:kS s P=3/\xS s P=[125]
   ·rw[tJ (TL hsm hP hx.1 hx.2 he)];have hQ:=rU hP;have hQ2:P<nS s P:=uW (by omega) (by omega);exact⟨_,rfl,.inr (.inr ⟨nS s P,_,_,_,_,_,_,hQ2,hQ.2,rfl,h⟩)⟩
   ·rw[tJ (a4T hsm hP hk hx)];exact⟨_,rfl,.inr (.inl ⟨_,rfl,show (3:Int)≠0 by decide⟩)⟩
def aJ1 (s:List UInt8) (P:Nat) (bad:Int) (ends:List Int) (r:E2):Prop:=
 r.2.2.1≠0\/∃(P':Nat) (sr tg:List UInt8) (cm fg:List (List UInt8)) (st:Int) (fd:List rC),P<=P'/\P'<=s.length/\r=((P':Int),bad,0,ends++[(P':Int)],sr,tg,cm,fg,st,fd)/\H0 sr tg cm fg st fd
theorem TT {x:List UInt8}{P:Nat}(hP:P<=s.length) (he:ends.length<=5000): ∃r,uE (s,((P:Int),(bad,(0,(c,(ends,())))))) (i0 x) hd=some r/\aJ1 s P bad ends r:=by
 unfold uE;rw[yG hsm hP,aMH];by_cases h1:(decide (kR (kS s P)=3)&&(decide (([123]:List UInt8)=[])||decide (xS s P=[123])))=true
 ·rw[u6 h1];dsimp only;have hQ:=rU hP;obtain⟨ro,r1,r2⟩:=TS (c:=c) (bad:=bad) (bad0:=bad) (at0:=(P:Int)) (e0:=0) (i:=i0 x) (hd:=hd) hsm he s.length (nS s P) [] [] [] [] 0 [] false false false (by omega) hQ.2 a40;have r1':pR (w4 (s,((P:Int),(bad,((0:Int),(c,(ends,())))))) (i0 x) hd) ((nS s P:Int),bad,0,(i0 x).2.1,(i0 x).2.2.1,(i0 x).2.2.2.1,(i0 x).2.2.2.2.1,(i0 x).2.2.2.2.2.1,(i0 x).2.2.2.2.2.2.1,false,false,false)=some ro:=r1;rw[r1'];rcases r2 with⟨r9,rfl,r2⟩ |⟨r10,rfl,r2⟩ |⟨P2,a1,a2,a3,a4,a5,a6,g1,g2,rfl,g4⟩
  ·exact⟨_,rfl,.inl r2⟩
  ·exact⟨_,rfl,.inl r2⟩
  ·exact⟨_,rfl,.inr ⟨P2,a1,a2,a3,a4,a5,a6,by omega,g2,rfl,g4⟩⟩
 ·rw[vA h1];dsimp only;rw[tJ (IX (show (3:Int)≠0 by decide))];exact⟨_,rfl,.inl (show (3:Int)≠0 by decide)⟩
end
theorem aJ2 {id sr tg:List UInt8}{cm fg:List (List UInt8)}{st:Int}{fd:List rC}(hi:D0 id=true) (ht:tK id=true) (h:H0 sr tg cm fg st fd):GR (id,(sr,(tg,(cm,(fg,(st,(fd,())))))))=true:=by
 unfold D0 at hi;unfold GR;dsimp only;rw[aMS] at hi;rw[hi.1,hi.2,ht,h.sr,h.tg,h.cm,h.fg,h.fd,aNK h.st.1,aNK h.st.2];rfl
structure E3 (es:List tY):Prop where
 len:es.length<=1000
 ok: ∀x∈es,GR x=true
 pw:es.Pairwise (fun a b=>a.1≠b.1)
section
variable {s:List UInt8}(hsm:s.length<=4000000000) {bad:Int}{ends:List Int}{tag:List UInt8}{cms:List (List UInt8)}{fds:List rC}{es:List tY}
include hsm
def aJ3 (s:List UInt8) (P:Nat) (bad:Int) (ends:List Int) (es:List tY) (r:E5):Prop:=
 r.2.2.1≠0\/∃(P':Nat) (y:tY),P<P'/\P'<=s.length/\r=((P':Int),bad,0,es++[y],ends++[(P':Int)])/\E3 (es++[y])
theorem aC4 {P:Nat}(hP:P<=s.length) (he:ends.length<=5000) (hes:E3 es): ∃r,zB (s,((P:Int),(bad,(0,((tag,(cms,(fds,(es,())))),(ends,()))))))=some r/\aJ3 s P bad ends es r:=by
 have hQ:=rU hP;have hR:=rU hQ.2;have e3:(3:Int)≠0:=by decide
 unfold zB;rw[yG hsm hP,aMH];by_cases h0:(decide (kR (kS s P)=2)&&(decide (([101,110,116,114,121]:List UInt8)=[])||decide (xS s P=[101,110,116,114,121])))=true
 ·have hk:kS s P=2:=(yF (by decide) (by decide)).1 (by rw[aMS,aMQ] at h0;exact h0.1);have hPQ:P<nS s P:=uW (by omega) (by omega);rw[u6 h0];dsimp only;rw[A2 hsm hQ.2 (by decide) (by decide),aMH];by_cases hk1:kS s (nS s P)=1
  ·rw[u6 (by simpa using hk1)];dsimp only;rw[aMK (show¬(!decide ((0:Int)=0))=true from by decide),TN _ _ (show es.length<=5000 by have:=hes.len;omega),aMH,TM];dsimp only;by_cases hid:(decide (xS s (nS s P)=[])||decide ((200:Int)<((xS s (nS s P)).length:Int)))=true
   ·rw[aMI hid];unfold qW;rw[uV];exact⟨_,rfl,.inl e3⟩
   ·rw[aMK hid];by_cases hdup:(es.any fun y=>decide (y.1=xS s (nS s P)))=true
    ·rw[aMI hdup];unfold qW;rw[uV];exact⟨_,rfl,.inl (show (9:Int)≠0 by decide)⟩
    ·rw[aMK hdup];by_cases hm:(1000:Int)<=(es.length:Int)
     ·rw[aMI (show decide ((1000:Int)<=(es.length:Int))=true from aNK hm)];unfold qW;rw[uV];exact⟨_,rfl,.inl (show (6:Int)≠0 by decide)⟩
     ·rw[aMK (show¬decide ((1000:Int)<=(es.length:Int))=true from by simpa using hm)];obtain⟨r,h1,h2⟩:=TT (c:=(tag,(cms,(fds,(es,()))))) (bad:=bad) (hd:=false) (x:=xS s (nS s P)) hsm hR.2 he;have h1':uE (s,((nS s (nS s P):Int),(bad,((0:Int),((tag,(cms,(fds,(es,())))),(ends,())))))) (xS s (nS s P),([],([],([],([],(0,([],()))))))) false=some r:=h1;rw[h1',aMH,aMI (by simp;omega),aMI (by simp;omega)];rcases h2 with h2|⟨P',sr,tg,cm,fg,st,fd,g1,g2,rfl,g3⟩
      ·exact⟨_,rfl,.inl h2⟩
      ·refine⟨_,rfl,.inr ⟨P',(xS s (nS s P),(sr,(tg,(cm,(fg,(st,(fd,()))))))),by omega,g2,rfl,?_,?_,?_⟩⟩
       ·rw[aMN,aNI];omega
       ·intro x hx;rcases aNE.1 hx with hx|hx
        ·exact hes.ok x hx
        ·rw[aMW.1 hx];refine aJ2 ?_ (OM hk1) g3;unfold D0;simp only[aNz,aMQ,not_or] at hid;simp only[aMS,aNh,aNr,aMQ];exact⟨hid.1,by omega⟩
       ·rw[aOj];refine⟨hes.pw,aOl _ _,fun a ha b hb=> ?_⟩;rw[aMW.1 hb];intro e;exact hdup (List.any_eq_true.2 ⟨a,ha,aNK e⟩)
  ·rw[vA (by simpa using hk1)];dsimp only;rw[aMI (show (!decide ((3:Int)=0))=true from by decide)];exact⟨_,rfl,.inl e3⟩
 ·rw[vA h0];dsimp only;rw[FI hsm hP e3,aMH];dsimp only;rw[aMI (show (!decide ((3:Int)=0))=true from by decide)];exact⟨_,rfl,.inl e3⟩
theorem aC5 {rr:Int×Int×Int×List UInt8×List (List UInt8)×List pL×List Int}: ∀(n P:Nat) (es:List tY) (ends:List Int),s.length-P<=n->P<=s.length->E3 es->ends.length=es.length+1->
  ∃ro,pR (tI s rr) ((P:Int),bad,0,es,ends)=some ro/\(ro.2.2.1=0->E3 ro.2.2.2.1/\ro.2.2.2.2.length=ro.2.2.2.1.length+1)
 |n,P,es,ends,hn,hP,hes,hle=>by
  have hg:=LJ (GU hsm) hP;by_cases hlt:P+(G (s.drop P)).1<s.length
  ·obtain⟨r,h1,h2⟩:=aC4 (bad:=bad) (tag:=rr.2.2.2.1) (cms:=rr.2.2.2.2.1) (fds:=rr.2.2.2.2.2.1) hsm hP (show ends.length<=5000 by have:=hes.len;omega) hes;have hst:tI s rr ((P:Int),bad,0,es,ends)=some (.inl r):=by
    unfold tI;dsimp only;rw[hg,aMI uH,aMI (show (decide ((0:Int)=0)&&decide (val (some (((P+(G (s.drop P)).1:Nat):Int)))<(s.length:Int)))=true from by
     show (decide ((0:Int)=0)&&decide (((P+(G (s.drop P)).1:Nat):Int)<(s.length:Int)))=true;simp;omega),h1,aMH]
   rw[D4 hst];rcases h2 with h2|⟨P',y,p1,p2,rfl,h3⟩
   ·obtain⟨p,b,e,q1,q2⟩:=r;have h2':e≠0:=h2;have hs2:tI s rr (p,b,e,q1,q2)=some (.inr (p,b,e,q1,q2)):=by
     unfold tI;dsimp only;rw[aMI (by intro hh;simp [h2'] at hh),aMK (by simp [h2'])]
    rw[tJ hs2];exact⟨_,rfl,fun h=>absurd h h2'⟩
   ·match n,hn with
    |0,hn=>exact absurd p2 (by omega)
    |n+1,hn=>exact aC5 n P' _ _ (by omega) p2 h3 (by simp only[aMN,aNI];omega)
  ·have hst:tI s rr ((P:Int),bad,0,es,ends)=some (.inr ((P:Int),bad,0,es,ends)):=by
    unfold tI;dsimp only;rw[hg,aMI uH,aMK];show¬(decide ((0:Int)=0)&&decide (((P+(G (s.drop P)).1:Nat):Int)<(s.length:Int)))=true;simp;omega
   rw[tJ hst];exact⟨_,rfl,fun _=>⟨hes,hle⟩⟩
def aJ4 (s:List UInt8) (r:H7):Prop:=
 r.2.2.1≠0\/∃(P':Nat) (tag:List UInt8) (cm:List (List UInt8)) (fd:List rC),P'<=s.length/\r=((P':Int),0,0,tag,cm,fd,[(P':Int)])/\tW tag=true/\C2 cm=true/\BG fd=true
theorem aC6: ∃r,BZ (s,((0:Int),((0:Int),((0:Int),((([]:List UInt8),(([]:List (List UInt8)),(([]:List pL),(([]:List qT),())))),(([]:List Int),()))))))=some r/\aJ4 s r:=by
 have hP:0<=s.length:=aNt _;have hQ:=rU hP;have hR:=rU hQ.2;have e3:(3:Int)≠0:=by decide
 have h1:uN (s,(((0:Nat):Int),((0:Int),((0:Int),((([]:List UInt8),(([]:List (List UInt8)),(([]:List pL),(([]:List qT),())))),(([]:List Int),())))))) 2 [99,97,116,97,108,111,103]=_:=yG hsm hP;have h1':uN (s,((0:Int),((0:Int),((0:Int),((([]:List UInt8),(([]:List (List UInt8)),(([]:List pL),(([]:List qT),())))),(([]:List Int),())))))) 2 [99,97,116,97,108,111,103]=_:=h1;unfold BZ;rw[h1',aMH];by_cases h0:(decide (kR (kS s 0)=2)&&(decide (([99,97,116,97,108,111,103]:List UInt8)=[])||decide (xS s 0=[99,97,116,97,108,111,103])))=true
 ·rw[u6 h0];dsimp only;rw[A2 hsm hQ.2 (by decide) (by decide),aMH];by_cases hk1:kS s (nS s 0)=1
  ·rw[u6 (by simpa using hk1)];dsimp only;rw[LE _ (GV hsm hQ.2),aMI uH];by_cases ht:tW (xS s (nS s 0))=true
   ·rw[aMK (show¬(decide ((0:Int)=0)&& !val (some (tW (xS s (nS s 0)))))=true from by rw[ht];decide)];unfold rE;rw[aMH];dsimp only;obtain⟨r,g1,g2⟩:=TT (c:=([],([],([],([],()))))) (bad:=0) (ends:=[]) (hd:=true) (x:=[]) hsm hR.2 (by decide);have g1':uE (s,((nS s (nS s 0):Int),((0:Int),((0:Int),(([],([],([],([],())))),(([]:List Int),())))))) ([],([],([],([],([],(0,([],()))))))) true=some r:=g1;rw[g1',aMH];rcases g2 with g2|⟨P',sr,tg,cm,fg,st,fd,q1,q2,rfl,q3⟩
    ·exact⟨_,rfl,.inl g2⟩
    ·exact⟨_,rfl,.inr ⟨P',_,_,_,q2,rfl,ht,q3.cm,q3.fd⟩⟩
   ·rw[aMI (show (decide ((0:Int)=0)&& !val (some (tW (xS s (nS s 0)))))=true from by rw[show tW (xS s (nS s 0))=false from by simpa using ht];decide)];unfold qW;rw[uV];unfold rE;rw[aMH];dsimp only;obtain⟨ro,hro,g1,g2⟩:=FL (P:=nS s (nS s 0)) (c2:=([],([],([],([],()))))) (bad:=(fS s (nS s 0):Int)) (e:=3) (ends2:=[]) (hd:=true) (i:=i0 []) hsm hR.2 (by decide);have hro':uE (s,((nS s (nS s 0):Int),((fS s (nS s 0):Int),((3:Int),(([],([],([],([],())))),(([]:List Int),())))))) ([],([],([],([],([],(0,([],()))))))) true=some ro:=hro;rw[hro',aMH];exact⟨_,rfl,.inl (by show ro.2.2.1≠0;rw[g2];decide)⟩
  ·rw[vA (by simpa using hk1)];dsimp only;rw[aMI (by intro hh;simp at hh),aMK (show¬(decide ((3:Int)=0)&& !val (F4 (xS s (nS s 0))))=true from by simp)];unfold rE;rw[aMH];dsimp only;obtain⟨ro,hro,g1,g2⟩:=FL (P:=nS s 0) (c2:=([],([],([],([],()))))) (bad:=(fS s (nS s 0):Int)) (e:=3) (ends2:=[]) (hd:=true) (i:=i0 []) hsm hQ.2 (by decide);have hro':uE (s,((nS s 0:Int),((fS s (nS s 0):Int),((3:Int),(([],([],([],([],())))),(([]:List Int),())))))) ([],([],([],([],([],(0,([],()))))))) true=some ro:=hro;rw[hro',aMH];exact⟨_,rfl,.inl (by show ro.2.2.1≠0;rw[g2];decide)⟩
 ·rw[vA h0];dsimp only;have h2:uN (s,(((0:Nat):Int),((fS s 0:Int),((3:Int),((([]:List UInt8),(([]:List (List UInt8)),(([]:List pL),(([]:List qT),())))),(([]:List Int),())))))) 1 []=_:=FI hsm hP e3;rw[h2,aMH];dsimp only;rw[aMI (by intro hh;simp at hh),aMK (show¬(decide ((3:Int)=0)&& !val (F4 (xS s 0)))=true from by simp)];unfold rE;rw[aMH];dsimp only;obtain⟨ro,hro,g1,g2⟩:=FL (P:=0) (c2:=([],([],([],([],()))))) (bad:=(fS s 0:Int)) (e:=3) (ends2:=[]) (hd:=true) (i:=i0 []) hsm hP (by decide);have hro':uE (s,(((0:Nat):Int),((fS s 0:Int),((3:Int),(([],([],([],([],())))),(([]:List Int),())))))) ([],([],([],([],([],(0,([],()))))))) true=some ro:=hro;rw[hro',aMH];exact⟨_,rfl,.inl (by show ro.2.2.1≠0;rw[g2];decide)⟩
omit hsm in
theorem aJ5 {c:C4}(h1:tW c.1=true) (h2:C2 c.2.1=true) (h3:BG c.2.2.1=true) (h4:E3 c.2.2.2.1):C8 c=true:=by
 unfold C8;rw[h1,h2,h3,aNK (show ((c.2.2.2.1.length:Int))<=1000 by have:=h4.len;omega)];simp only[Bool.true_and,aNh,aNG,aOp,aNZ];intro i hi;unfold OK;rw[BM hi,h4.ok _ (aNR hi)];simp only[Bool.not_true,Bool.or_false,aNG,aMQ];intro y hy;rw[List.mem_take_iff_getElem] at hy;obtain⟨j,hj,rfl⟩:=hy;exact aNX.1 h4.pw j i (by omega) hi (by omega)
theorem aC7: ∃v,C1 s=some v/\(v.2.2.2.2.2.2=0->C8 (v.1,(v.2.1,(v.2.2.1,(v.2.2.2.1,()))))=true)/\(v.2.2.2.2.2.2≠0->v.1=[]/\v.2.1=[]/\v.2.2.1=[]/\v.2.2.2.1=[]/\v.2.2.2.2.1=[])/\(v.2.2.2.2.2.2=0->v.2.2.2.2.2.1=0/\v.2.2.2.2.1.length=v.2.2.2.1.length+1):=by
 obtain⟨r,h1,h2⟩:=aC6 hsm;unfold C1;rw[h1,aMH];rcases h2 with h2|⟨P',tag,cm,fd,p1,rfl,t1,t2,t3⟩
 ·obtain⟨p,b,e,q1,q2,q3,q4⟩:=r;have h2':e≠0:=h2;have hs2:tI s (p,b,e,q1,q2,q3,q4) (p,b,e,[],q4)=some (.inr (p,b,e,[],q4)):=by
   unfold tI;dsimp only;rw[aMI (by intro hh;simp [h2'] at hh),aMK (by simp [h2'])]
  dsimp only;rw[tJ hs2];unfold rE;rw[aMH];dsimp only;rw[aMI (by simp [h2'])];exact⟨_,rfl,fun h=>absurd h h2',fun _=>⟨rfl,rfl,rfl,rfl,rfl⟩,fun h=>absurd h h2'⟩
 ·dsimp only;obtain⟨ro,g1,g2⟩:=aC5 (bad:=0) (rr:=((P':Int),0,0,tag,cm,fd,[(P':Int)])) hsm s.length P' [] [(P':Int)] (by omega) p1 ⟨by decide,fun x hx=>(by cases hx),List.Pairwise.nil⟩ (by simp);rw[g1];unfold rE;rw[aMH];obtain⟨p,b,e,q1,q2⟩:=ro;dsimp only;by_cases he:e=0
  ·rw[aMK (by simp [he])];exact⟨_,rfl,fun _=>aJ5 t1 t2 t3 (g2 he).1,fun h=>absurd rfl h,fun _=>⟨rfl,(g2 he).2⟩⟩
  ·rw[aMI (by simp [he])];exact⟨_,rfl,fun h=>absurd h he,fun _=>⟨rfl,rfl,rfl,rfl,rfl⟩,fun h=>absurd h he⟩
end
section
variable {s:List UInt8}(hsm:s.length<=4000000000)
include hsm
theorem a41: ∃v,wW s=some v/\L7 s=some v/\pQ v.2.1/\pQ v.2.2.1/\pQ v.2.2.2.1/\∀y∈v.2.2.2.1,IY y:=by
 obtain⟨ph,rh,hph,hrh,hres⟩:=aCS (P:=0) (a:=0) (en:=0) (bad:=0) (c:=([],([],([],([],()))))) (c2:=([],([],([],([],()))))) (ends:=[]) (ids:=[]) hsm (aNt _) (by decide);have hnx:=a4N hsm (aNt s.length);have hnx':AN (s,((0:Int),()))=some (kS s 0,xS s 0,(fS s 0:Int),(nS s 0:Int),(nS s 0:Int)):=hnx;have hrh':BZ (s,((0:Int),((0:Int),((0:Int),((([]:List UInt8),(([]:List (List UInt8)),(([]:List pL),(([]:List qT),())))),(([]:List Int),()))))))=some rh:=hrh;unfold wW uT L7 C1;rw[hnx',aMH];dsimp only;rw[hph,aMH,hrh',aMH];rcases hres with⟨P',tag,cm,fd,g1,g2,rfl,rfl,f1,f2⟩ |hb
 ·obtain⟨po,ro,h1,h2,h3⟩:=a4Y (a:=0) (bad:=0) (hp:=((nS s P':Int),kS s P',xS s P',(fS s P':Int),(nS s P':Int),0,0,tag,cm,fd,[]++[(P':Int)],(P':Int))) (hr:=((P':Int),0,0,tag,cm,fd,[]++[(P':Int)])) hsm s.length P' [] ([]++[(P':Int)]) (P':Int) [] (by omega) g2 (by decide) (by simp) (fun _=>rfl) (fun _ h=>by cases h) (aCT P');dsimp only;rw[h1,h2];unfold rE;rw[aMH,aMH];dsimp only;rw[aMH];rcases h3 with⟨e1,e2,e3,e4,e5,e6,_,_⟩ |⟨e1,e2,e3⟩
  ·rw[aMK (by simp [e1]),aMK (by simp [e2]),aMH,e3];exact⟨_,rfl,rfl,f1,f2,(show pQ po.2.2.2.2.2.2.2.1 from by unfold pQ;omega),e6⟩
  ·rw[aMI (by simp [e1]),aMI (by simp [e3,e1]),aMH,e2,e3];exact⟨_,rfl,rfl,LM,LM,LM,fun _ h=>by cases h⟩
 ·obtain⟨b1,b2,b3⟩:=hb;have e3:BD s ph (ph.1,ph.2.1,ph.2.2.1,ph.2.2.2.1,ph.2.2.2.2.1,ph.2.2.2.2.2.1,ph.2.2.2.2.2.2.1,[],ph.2.2.2.2.2.2.2.2.2.2.1,ph.2.2.2.2.2.2.2.2.2.2.2,[])=some (.inr (ph.1,ph.2.1,ph.2.2.1,ph.2.2.2.1,ph.2.2.2.2.1,ph.2.2.2.2.2.1,ph.2.2.2.2.2.2.1,[],ph.2.2.2.2.2.2.2.2.2.2.1,ph.2.2.2.2.2.2.2.2.2.2.2,[])):=by
   unfold BD;dsimp only;rw[aMK (by simp [b1])]
  have e4:tI s rh (rh.1,rh.2.1,rh.2.2.1,[],rh.2.2.2.2.2.2)=some (.inr (rh.1,rh.2.1,rh.2.2.1,[],rh.2.2.2.2.2.2)):=by
   have h3:rh.2.2.1≠0:=by rw[b3];exact b1
   unfold tI;dsimp only;rw[aMI (by intro hh;simp [h3] at hh),aMK (by simp [h3])]
  rw[tJ e3,tJ e4];unfold rE;rw[aMH,aMH];dsimp only;rw[aMH];dsimp only;rw[aMI (by simp [b1]),aMI (by simp [b3,b1]),aMH,b2,b3];exact⟨_,rfl,rfl,LM,LM,LM,fun _ h=>by cases h⟩
end
theorem a42 {α:Type}{f:Int->Option (Int⊕(Unit⊕Bool))}(l:List α) (hf: ∀(i:Nat) (h:i<l.length),f i=some (.inl (i+1))) (he:f l.length=some (.inr (.inl ()))):
  pR f 0=some (.inl ()):=by
 have h:=CS (f:=f) (l:=l) (fun _=>false) (fun _=>false) (fun i h=>by rw[aMK aOK];exact hf i h) he;rw[h];have:l.findIdx? (fun _=>false)=none:=aOz.2 (fun _ _=>rfl);rw[this];rfl
theorem LN (l:List (List UInt8)) (hl:pQ l):v7 l l=some true:=by
 unfold pQ at hl;unfold v7;rw[aMK (by simp),a42 l (fun i h=>by
  unfold RU;rw[aMI (uF h),aMI (rX h),aMI (rX h),aMK (by simp),aMI (sR (by omega))]) (by
  unfold RU;rw[aMK (zG _)])]
 rfl
theorem TU (l:List rC) (hl:pQ l):y4 l l=some true:=by
 unfold pQ at hl;unfold y4;rw[aMK (by simp),a42 l (fun i h=>by
  unfold RV;rw[aMI (uF h),aMI (rX h),aMI (rX h),aMK (by simp),aMI (sR (by omega))]) (by
  unfold RV;rw[aMK (zG _)])]
 rfl
theorem aJ6 (y:qT) (h:IY y):KE y y=some ():=by
 unfold KE;rw[LN _ h.1,LN _ h.2.1,TU _ h.2.2,aMI uH,aMI uH,aMI uH]
theorem aC8 (l:List qT) (hl:pQ l) (h: ∀y∈l,IY y):BX l l=some true:=by
 unfold pQ at hl;unfold BX;rw[aMK (by simp),a42 l (fun i hi=>by
  have hy:=h l[i] (aNR hi);unfold SC;rw[aMI (uF hi),aMI (rX hi),aMI (rX hi),y3 (t:=tC) hi];rw[aJ6 _ hy,aMH,LN _ hy.1,LN _ hy.2.1,TU _ hy.2.2,aMK (by simp [val]),aMI (sR (by omega))]) (by
  unfold SC;rw[aMK (zG _)])]
 rfl
end Go.Proofs.YtbbpilohihldiaaGreatDoor
namespace Go.Proofs.YtbbpilohihldiaaGreatDoor
open Vc
set_option maxRecDepth 1000000
end Go.Proofs.YtbbpilohihldiaaGreatDoor
namespace Go.Proofs.YtbbpilohihldiaaGreatDoor
open Vc
theorem IZ {x:List UInt8}(h:tK x=true):x.length<=4000:=by
 unfold tK at h;simp only[aMS,aMQ] at h;omega
structure aJ7 (x:tY):Prop where
 id:x.1.length<=4000
 src:x.2.1.length<=4000
 tgt:x.2.2.1.length<=4000
 com:x.2.2.2.1.length<=20/\∀y∈x.2.2.2.1,y.length<=4000
 flg:x.2.2.2.2.1.length<=20/\∀y∈x.2.2.2.2.1,y.length<=4000
 fld:x.2.2.2.2.2.2.1.length<=20/\∀y∈x.2.2.2.2.2.2.1,y.1.length<=4000/\y.2.1.length<=4000
theorem aJ8 {x:tY}(h:GR x=true):aJ7 x:=by
 have h':=h;unfold GR at h';simp only[aMS] at h';obtain⟨⟨⟨⟨⟨⟨⟨⟨hne,h200⟩,hid⟩,hsrc⟩,htgt⟩,hcom⟩,hflg⟩,_⟩,hfld⟩:=h';obtain⟨c1,c2⟩:=TQ hcom;obtain⟨f1,f2,f3⟩:=TR hflg;obtain⟨g1,g2,g3⟩:=OL hfld;exact⟨IZ hid,IZ hsrc,IZ htgt,⟨c1,fun y hy=>IZ (c2 y hy)⟩,⟨f1,fun y hy=>IZ (aCX (f2 y hy))⟩,⟨g1,fun y hy=>⟨IZ (g2 y hy).2.1,IZ (g2 y hy).2.2⟩⟩⟩
theorem aJ9 {c:C4}(h:C8 c=true):IL c c=some ()/\((((decide (c.1=c.1))&&(val (v7 c.2.1 c.2.1)))&&(val (y4 c.2.2.1 c.2.2.1)))&&(val (BX c.2.2.2.1 c.2.2.2.1)))=true:=by
 obtain⟨h1,h2,h3,h4,h5,_⟩:=aCZ h;have f2:pQ c.2.1:=by have:=(TQ h2).1;unfold pQ;omega
 have f3:pQ c.2.2.1:=by have:=(OL h3).1;unfold pQ;omega
 have f4:pQ c.2.2.2.1:=by unfold pQ;omega
 have f5: ∀y∈c.2.2.2.1,IY y:=fun y hy=>by
  have hs:=aJ8 (h5 y hy);exact⟨by have:=hs.com.1;unfold pQ;omega,by have:=hs.flg.1;unfold pQ;omega,by have:=hs.fld.1;unfold pQ;omega⟩
 constructor
 ·unfold IL NL;rw[LN _ f2,TU _ f3,aC8 _ f4 f5];rw[aMI uH,aMI uH,aMH,aMI uH]
 ·rw[LN _ f2,TU _ f3,aC8 _ f4 f5];simp [val]
theorem aKa {s:List UInt8}(hsm:s.length<=4000000000): ∃v,wW s=some v/\(v.2.2.2.2.2=0->C8 (v.1,(v.2.1,(v.2.2.1,(v.2.2.2.1,()))))=true)/\(v.2.2.2.2.2≠0->v.1=[]/\v.2.1=[]/\v.2.2.1=[]/\v.2.2.2.1=[]):=by
 obtain⟨v,h1,h2,_⟩:=a41 hsm;obtain⟨w,g1,g2,g3,_⟩:=aC7 hsm;unfold L7 at h2;rw[g1,aMH] at h2;cases h2;exact⟨_,h1,g2,fun h=>⟨(g3 h).1,(g3 h).2.1,(g3 h).2.2.1,(g3 h).2.2.2.1⟩⟩
def ON:Nat->List (List UInt8)->List Nat
 |_,[]=>[]
 |a,x::ps=>(a+x.length)::ON (a+x.length) ps
theorem aC9 {s:List UInt8}{l:List Nat}{j:Nat}(h:j<l.length):(BL s l)[j]? =some (pc s l j):=by
 unfold BL;rw[List.getElem?_map,List.getElem?_range h];rfl
theorem a43 {s:List UInt8}{a b:Nat}(h:a<=b):s.take a++pE s (a:Int) (b:Int)=s.take b:=by
 unfold pE;rw[aNp,aNp];have e:b=a+(b-a):=by omega
 conv=>rhs;rw[e,List.take_add]
theorem aDa {s:List UInt8}{l:List Nat}(hs:l.Pairwise (·<=·)): ∀(k:Nat),k<l.length->((List.range (k+1)).map (pc s l)).flatten=s.take (l.getD k 0)
 |0,h=>by
  show (pE s ((0:Nat):Int) _)++[]=_;rw[List.append_nil];have:=a43 (s:=s) (aNt (l.getD 0 0));rw[List.take_zero,List.nil_append] at this;exact this
 |k+1,h=>by
  rw[List.range_succ,List.map_append,List.flatten_append,aDa hs k (by omega)];show _++((pc s l (k+1))++[])=_;rw[List.append_nil];exact a43 (aCV hs (by omega) h)
theorem aKb {s:List UInt8}{l:List Nat}(hne:l≠[]) (hs:l.Pairwise (·<=·)) (hle: ∀x∈l,x<=s.length):vO (pc s l 0) ((BL s l).drop 1) (pE s (FM l:Nat) (s.length:Int))=s:=by
 have hpos:0<l.length:=aOm.2 hne;have h1:=aDa (s:=s) hs (l.length-1) (by omega);rw[show l.length-1+1=l.length by omega] at h1;have h2:(BL s l).flatten=pc s l 0++((BL s l).drop 1).flatten:=by
  have e:BL s l=pc s l 0::(BL s l).drop 1:=by
   cases hp:BL s l with
   |nil=>
    have:=aNs List.length hp;simp at this;exact absurd this hne
   |cons x r=>
    have:=aC9 (s:=s) hpos;rw[hp] at this;rw[aML this];rfl
  conv=>lhs;rw[e,aN3]
 have h3:=a43 (s:=s) (TP hle (show l.length-1<l.length by omega));rw[List.take_length] at h3;unfold vO;rw[<-aMU,<-h2];show ((List.range l.length).map (pc s l)).flatten++_=s;rw[h1];exact h3
theorem E4 {x y:UInt8}{l:List UInt8}(r:List UInt8) (h:2<=l.length):rL x y (l++r)=rL x y l:=by
 match l,h with
 |b::c::t,_=>rfl
theorem TV {x y:UInt8}{l:List UInt8}(h:rL x y l=true):2<=l.length:=by
 match l,h with
 |b::c::t,_=>simp
theorem TW: ∀{l:List UInt8}{e:Nat}(r:List UInt8),sK l=some e->sK (l++r)=some e
 |[],_,_,h=>by cases h
 |[b],e,r,h=>by
  unfold sK at h;split at h
  ·rename_i hb;simp [rL] at hb
  ·rw[sK] at h;cases h
 |b::c::t,e,r,h=>by
  rw[sK] at h;rw[List.cons_append,sK,<-List.cons_append,E4 r (by simp)];by_cases hb:rL 42 47 (b::c::t)=true
  ·rw[aMI hb] at h⊢;exact h
  ·rw[aMK hb] at h⊢;cases hc:sK (c::t) with
   |none=>rw[hc] at h;cases h
   |some e'=>
    rw[hc] at h;rw[TW r hc];exact h
theorem aDb {α:Type}{p:α->Bool}{l r:List α}(h:(l.findIdx? p).getD l.length<l.length):((l++r).findIdx? p).getD (l++r).length=(l.findIdx? p).getD l.length:=by
 rw[List.findIdx?_append];cases hf:l.findIdx? p with
 |none=>rw[hf] at h;exact absurd h (aOx _)
 |some k=>rfl
theorem TX: ∀(n:Nat) (l r:List UInt8),l.length<=n->(G l).2=true->(G l).1<l.length->(∀u,l.drop (G l).1≠47::u)->G (l++r)=G l
 |_,[],_,_,_,h,_=>by simp at h
 |0,_::_,_,hl,_,_,_=>by simp at hl
 |n+1,b::t,r,hl,h2,h1,h3=>by
  simp only[aMO] at hl;by_cases hw:yC b=true
  ·rw[zI hw] at h1 h2 h3;rw[List.cons_append,zI hw,zI hw,TX n t r (by omega) h2 (by simp only[yD,aMO] at h1;omega) (fun u e=>h3 u (by
    show (b::t).drop (1+(G t).1)=_;rw[Nat.add_comm,aOF];exact e))]
  ·by_cases hb1:rL 47 47 (b::t)=true
   ·have hp:=GS hb1;rw[BH hw hb1] at h1 h2 h3;have h1':sA (b::t)+(G ((b::t).drop (sA (b::t)))).1<(b::t).length:=h1;have hln:sA ((b::t)++r)=sA (b::t):=aDb (by show sA (b::t)<_;omega);have hb1':rL 47 47 (b::(t++r))=true:=by rw[<-List.cons_append,E4 r (TV hb1)];exact hb1
    rw[List.cons_append,BH hw hb1',BH hw hb1,<-List.cons_append,hln,List.drop_append_of_le_length hp.2];rw[TX n ((b::t).drop (sA (b::t))) r (by rw[aMP];simp only[aMO] at hp⊢;omega) h2 (by rw[aMP];omega) (fun u e=>h3 u (by rw[aNo] at e;exact e))]
   ·by_cases hb2:rL 47 42 (b::t)=true
    ·have h2l:=TV hb2;have hb1': ¬rL 47 47 (b::(t++r))=true:=by rw[<-List.cons_append,E4 r h2l];exact hb1
     have hb2':rL 47 42 (b::(t++r))=true:=by rw[<-List.cons_append,E4 r h2l];exact hb2
     cases hc:sK ((b::t).drop 2) with
     |none=>rw[IS hw hb1 hb2 hc] at h2;cases h2
     |some e=>
      have hlt:=LI hc;rw[aMP] at hlt;have hc':sK ((b::(t++r)).drop 2)=some e:=by
       rw[<-List.cons_append,List.drop_append_of_le_length h2l];exact TW r hc
      rw[BI hw hb1 hb2 hc] at h1 h2 h3;have h1':e+4+(G ((b::t).drop (e+4))).1<(b::t).length:=h1;rw[List.cons_append,BI hw hb1' hb2' hc',BI hw hb1 hb2 hc,<-List.cons_append,List.drop_append_of_le_length (by omega)];rw[TX n ((b::t).drop (e+4)) r (by rw[aMP];simp only[aMO];omega) h2 (by rw[aMP];omega) (fun u e'=>h3 u (by rw[aNo] at e';exact e'))]
    ·rw[FH hw hb1 hb2] at h3⊢;have hb:b≠47:=fun e=>h3 t (by rw[e];rfl);rw[List.cons_append,FH hw (aCW hb) (aCW hb)]
theorem a44 {d:UInt8}: ∀(n:Nat) (l r:List UInt8) (k:Nat),l.length<=n->s8 d l=some k->s8 d (l++r)=some k
 |_,[],_,_,_,h=>by rw[O4] at h;cases h
 |0,_::_,_,_,hl,_=>by simp at hl
 |n+1,b::t,r,k,hl,h=>by
  simp only[aMO] at hl;by_cases hd:b=d
  ·rw[O5 hd] at h;rw[List.cons_append,O5 hd];exact h
  ·by_cases hb:b=92
   ·rw[O6 hd hb] at h;rw[List.cons_append,O6 hd hb];cases t with
    |nil=>rw[List.drop_nil,O4] at h;cases h
    |cons c u=>
     have h':(s8 d u).map (· +2)=some k:=h;show (s8 d (u++r)).map (· +2)=some k;cases hu:s8 d u with
     |none=>rw[hu] at h';cases h'
     |some j=>
      rw[hu] at h';rw[a44 n u r j (by simp only[aMO] at hl;omega) hu];exact h'
   ·rw[O7 hd hb] at h;rw[List.cons_append,O7 hd hb];cases hu:s8 d t with
    |none=>rw[hu] at h;cases h
    |some j=>
     rw[hu] at h;rw[a44 n t r j (by omega) hu];exact h
def E6 (l:List UInt8):Prop:=(sL l).1=1\/(sL l).1=3\/((sL l).1=2/\(sL l).2.2<l.length)
theorem aKc {l:List UInt8}(r:List UInt8) (h:E6 l):sL (l++r)=sL l:=by
 cases l with
 |nil=>
  rcases h with h|h|⟨h,_⟩
  ·exact absurd h (show¬(4:Int)=1 by decide)
  ·exact absurd h (show¬(4:Int)=3 by decide)
  ·exact absurd h (show¬(4:Int)=2 by decide)
 |cons b t=>
  rw[List.cons_append];by_cases h1:b=123\/b=125
  ·rw[DW h1,DW h1]
  ·by_cases h2:b=34
   ·unfold E6 at h;rw[C3 h1 h2] at h;rw[C3 h1 h2,C3 h1 h2];unfold vH at h⊢;cases he:s8 34 t with
    |none=>
     rw[he] at h;rcases h with h|h|⟨h,_⟩
     ·exact absurd h (show¬(0:Int)=1 by decide)
     ·exact absurd h (show¬(0:Int)=3 by decide)
     ·exact absurd h (show¬(0:Int)=2 by decide)
    |some k=>
     have hk:=LH t.length t k (aM2 _) he;rw[a44 t.length t r k (aM2 _) he];dsimp only;rw[aNL (by omega)]
   ·by_cases h3:A0 b.toNat=true
    ·unfold E6 at h;rw[C5 h1 h2 h3] at h;rw[C5 h1 h2 h3,C5 h1 h2 h3];have hl:uU (b::t)<(b::t).length:=by
      rcases h with h|h|⟨_,h⟩
      ·exact absurd h (show¬(2:Int)=1 by decide)
      ·exact absurd h (show¬(2:Int)=3 by decide)
      ·exact h
     have hw:uU (b::(t++r))=uU (b::t):=by
      rw[<-List.cons_append];exact aDb hl
     rw[hw,<-List.cons_append,aNL (by omega)]
    ·unfold E6 at h;rw[GT h1 h2 h3] at h;rcases h with h|h|⟨h,_⟩
     ·exact absurd h (show¬(0:Int)=1 by decide)
     ·exact absurd h (show¬(0:Int)=3 by decide)
     ·exact absurd h (show¬(0:Int)=2 by decide)
theorem aKd {u:List UInt8}: ¬E6 (47::u):=by
 unfold E6;rw[aCy];rintro(h|h|⟨h,_⟩)
 ·exact absurd h (show¬(0:Int)=1 by decide)
 ·exact absurd h (show¬(0:Int)=3 by decide)
 ·exact absurd h (show¬(0:Int)=2 by decide)
theorem aKe: ¬E6 []:=by
 rintro(h|h|⟨h,_⟩)
 ·exact absurd h (show¬(4:Int)=1 by decide)
 ·exact absurd h (show¬(4:Int)=3 by decide)
 ·exact absurd h (show¬(4:Int)=2 by decide)
theorem aDc {l:List UInt8}(r:List UInt8) (hg:(G l).2=true) (h:E6 (l.drop (G l).1)):rY (l++r)=rY l:=by
 have hlt:(G l).1<l.length:=by
  by_cases hh:(G l).1<l.length
  ·exact hh
  ·rw[List.drop_eq_nil_of_le (by omega)] at h;exact absurd h aKe
 have hG:=TX l.length l r (aM2 _) hg hlt (fun u e=>by rw[e] at h;exact aKd h);unfold rY;rw[hG,aMI hg,aMI hg,List.drop_append_of_le_length (by omega),aKc r h]
theorem aDd: ∀{l:List UInt8}{e:Nat}(r:List UInt8),sK (l++r)=some e->e+2<=l.length->sK l=some e
 |[],_,_,_,h=>by simp at h
 |[b],_,_,_,h=>by simp at h
 |b::c::t,e,r,h,hl=>by
  rw[List.cons_append,sK,<-List.cons_append,E4 r (by simp)] at h;rw[sK];by_cases hb:rL 42 47 (b::c::t)=true
  ·rw[aMI hb] at h⊢;exact h
  ·rw[aMK hb] at h⊢;cases hc:sK ((c::t)++r) with
   |none=>rw[hc] at h;cases h
   |some e'=>
    rw[hc] at h;obtain rfl:e'+1=e:=aML h;rw[aDd r hc (by simp only[aMO] at hl⊢;omega)];rfl
theorem aDe {α:Type}{p:α->Bool}{l r:List α}(h:((l++r).findIdx? p).getD (l++r).length<l.length):(l.findIdx? p).getD l.length=((l++r).findIdx? p).getD (l++r).length:=by
 rw[List.findIdx?_append] at h⊢;cases hf:l.findIdx? p with
 |some k=>rfl
 |none=>
  rw[hf] at h;cases hr:r.findIdx? p with
  |none=>rw[hr] at h;simp only[Option.map_none,Option.or_none,Option.getD_none,aMN] at h;omega
  |some k=>rw[hr] at h;simp only[Option.map_some,Option.none_or,aN1] at h;omega
theorem TY: ∀(n:Nat) (l r:List UInt8),l.length<=n->(G (l++r)).2=true->(G (l++r)).1<l.length->G l=G (l++r)
 |_,[],_,_,_,h=>by simp at h
 |0,_::_,_,hl,_,_=>by simp at hl
 |n+1,b::t,r,hl,h2,h1=>by
  simp only[aMO] at hl;rw[List.cons_append] at h1 h2⊢;by_cases hw:yC b=true
  ·rw[zI hw] at h1 h2;rw[zI hw,zI hw,TY n t r (by omega) h2 (by simp only[yD,aMO] at h1;omega)]
  ·by_cases hb1:rL 47 47 (b::(t++r))=true
   ·rw[BH hw hb1] at h1 h2;have hp:=GS hb1;have h1':sA (b::(t++r))+(G ((b::(t++r)).drop (sA (b::(t++r))))).1<(b::t).length:=h1;have hln:sA (b::t)=sA (b::(t++r)):=aDe (l:=b::t) (r:=r) (by show sA (b::(t++r))<_;omega);have h2l:2<=(b::t).length:=by omega
    have hb1':rL 47 47 (b::t)=true:=by rw[<-E4 r h2l];exact hb1
    rw[BH hw hb1,BH hw hb1',hln];rw[<-hln,<-List.cons_append,List.drop_append_of_le_length (by rw[hln];omega)] at h1' h2⊢;rw[TY n ((b::t).drop (sA (b::t))) r (by rw[aMP,hln];simp only[aMO] at hp⊢;omega) h2 (by rw[aMP];omega)]
   ·by_cases hb2:rL 47 42 (b::(t++r))=true
    ·cases hc:sK ((b::(t++r)).drop 2) with
     |none=>rw[IS hw hb1 hb2 hc] at h2;cases h2
     |some e=>
      rw[BI hw hb1 hb2 hc] at h1 h2;have h1':e+4+(G ((b::(t++r)).drop (e+4))).1<(b::t).length:=h1;have h2l:2<=(b::t).length:=by omega
      have hb1': ¬rL 47 47 (b::t)=true:=by rw[<-E4 r h2l];exact hb1
      have hb2':rL 47 42 (b::t)=true:=by rw[<-E4 r h2l];exact hb2
      have hc':sK ((b::t).drop 2)=some e:=by
       rw[<-List.cons_append,List.drop_append_of_le_length h2l] at hc;exact aDd r hc (by rw[aMP];omega)
      rw[BI hw hb1 hb2 hc,BI hw hb1' hb2' hc'];rw[<-List.cons_append,List.drop_append_of_le_length (by omega)] at h1' h2⊢;rw[TY n ((b::t).drop (e+4)) r (by rw[aMP];simp only[aMO];omega) h2 (by rw[aMP];omega)]
    ·rw[FH hw hb1 hb2];have hb1': ¬rL 47 47 (b::t)=true:=fun h=>hb1 (by rw[<-List.cons_append,E4 r (TV h)];exact h);have hb2': ¬rL 47 42 (b::t)=true:=fun h=>hb2 (by rw[<-List.cons_append,E4 r (TV h)];exact h);rw[FH hw hb1' hb2']
theorem a45 {d:UInt8}: ∀(n:Nat) (l r:List UInt8) (k:Nat),l.length<=n->s8 d (l++r)=some k->k<l.length->s8 d l=some k
 |_,[],_,_,_,_,h=>by simp at h
 |0,_::_,_,_,hl,_,_=>by simp at hl
 |n+1,b::t,r,k,hl,h,hk=>by
  simp only[aMO] at hl hk;rw[List.cons_append] at h;by_cases hd:b=d
  ·rw[O5 hd] at h⊢;exact h
  ·by_cases hb:b=92
   ·rw[O6 hd hb] at h⊢;cases t with
    |nil=>
     cases r with
     |nil=>exact h
     |cons c u=>
      have h':(s8 d u).map (· +2)=some k:=h;cases hu:s8 d u with
      |none=>rw[hu] at h';cases h'
      |some j=>
       rw[hu] at h';have:j+2=k:=aML h';simp only[aNw] at hk;omega
    |cons c u=>
     have h':(s8 d (u++r)).map (· +2)=some k:=h;show (s8 d u).map (· +2)=some k;cases hu:s8 d (u++r) with
     |none=>rw[hu] at h';cases h'
     |some j=>
      rw[hu] at h';have hj:j+2=k:=aML h';simp only[aMO] at hl hk;rw[a45 n u r j (by omega) hu (by omega)];exact h'
   ·rw[O7 hd hb] at h⊢;cases hu:s8 d (t++r) with
    |none=>rw[hu] at h;cases h
    |some j=>
     rw[hu] at h;have hj:j+1=k:=aML h;rw[a45 n t r j (by omega) hu (by omega)];exact h
def In (l r:List UInt8):Prop:=((sL (l++r)).1=1/\(sL (l++r)).2.2<=l.length)\/((sL (l++r)).1=3/\l≠[])\/((sL (l++r)).1=2/\(sL (l++r)).2.2<l.length)
theorem aKf {l r:List UInt8}(hne:l≠[]) (h:In l r):sL l=sL (l++r)/\E6 l:=by
 cases l with
 |nil=>exact absurd rfl hne
 |cons b t=>
  unfold In at h;rw[List.cons_append] at h⊢;by_cases h1:b=123\/b=125
  ·refine⟨by rw[DW h1,DW h1],.inr (.inl ?_)⟩;rw[DW h1]
  ·by_cases h2:b=34
   ·rw[C3 h1 h2] at h;have key:vH t=vH (t++r)/\(vH t).1=1:=by
     unfold vH at h⊢;cases he:s8 34 (t++r) with
     |none=>
      rw[he] at h;rcases h with⟨h,_⟩ |⟨h,_⟩ |⟨h,_⟩
      ·exact absurd h (show¬(0:Int)=1 by decide)
      ·exact absurd h (show¬(0:Int)=3 by decide)
      ·exact absurd h (show¬(0:Int)=2 by decide)
     |some k=>
      rw[he] at h;dsimp only at h⊢;by_cases hb:(yB 3 ((t++r).take k)).2.2≠0\/tK (yB 3 ((t++r).take k)).1=false
      ·rw[aMI hb] at h;rcases h with⟨h,_⟩ |⟨h,_⟩ |⟨h,_⟩
       ·exact absurd h (show¬(0:Int)=1 by decide)
       ·exact absurd h (show¬(0:Int)=3 by decide)
       ·exact absurd h (show¬(0:Int)=2 by decide)
      ·rw[aMK hb] at h;have hk:k+2<=(b::t).length:=by
        rcases h with⟨_,h⟩ |⟨h,_⟩ |⟨h,_⟩
        ·exact h
        ·exact absurd h (show¬(1:Int)=3 by decide)
        ·exact absurd h (show¬(1:Int)=2 by decide)
       simp only[aMO] at hk;rw[a45 t.length t r k (aM2 _) he (by omega)];dsimp only;rw[aNL (by omega)] at hb⊢;rw[aMK hb];exact⟨rfl,rfl⟩
    refine⟨by rw[C3 h1 h2,C3 h1 h2];exact key.1,.inl ?_⟩;rw[C3 h1 h2];exact key.2
   ·by_cases h3:A0 b.toNat=true
    ·rw[C5 h1 h2 h3] at h;have hl:uU (b::(t++r))<(b::t).length:=by
      rcases h with⟨h,_⟩ |⟨h,_⟩ |⟨_,h⟩
      ·exact absurd h (show¬(2:Int)=1 by decide)
      ·exact absurd h (show¬(2:Int)=3 by decide)
      ·exact h
     have hw:uU (b::t)=uU (b::(t++r)):=aDe (l:=b::t) (r:=r) hl;constructor
     ·rw[C5 h1 h2 h3,C5 h1 h2 h3,hw,<-List.cons_append,aNL (by rw[List.cons_append];omega)]
     ·refine .inr (.inr ?_);rw[C5 h1 h2 h3];exact⟨rfl,by show uU (b::t)<_;omega⟩
    ·rw[GT h1 h2 h3] at h;rcases h with⟨h,_⟩ |⟨h,_⟩ |⟨h,_⟩
     ·exact absurd h (show¬(0:Int)=1 by decide)
     ·exact absurd h (show¬(0:Int)=3 by decide)
     ·exact absurd h (show¬(0:Int)=2 by decide)
theorem aKg {l r:List UInt8}(r':List UInt8) (hk:((rY (l++r)).1=1/\(rY (l++r)).2.2.2<=l.length)\/((rY (l++r)).1=3/\(rY (l++r)).2.2.2<=l.length)\/((rY (l++r)).1=2/\(rY (l++r)).2.2.2<l.length)):rY (l++r')=rY (l++r):=by
 unfold rY at hk;by_cases hg:(G (l++r)).2=true
 ·rw[aMI hg] at hk;dsimp only at hk;have hpos:(sL ((l++r).drop (G (l++r)).1)).1≠0->(sL ((l++r).drop (G (l++r)).1)).1≠4->0<(sL ((l++r).drop (G (l++r)).1)).2.2:=fun h0 h4=>aCK h0 h4;have hlt:(G (l++r)).1<l.length:=by
   rcases hk with⟨h,h'⟩ |⟨h,h'⟩ |⟨h,h'⟩
   ·have:=hpos (by rw[h];decide) (by rw[h];decide);omega
   ·have:=hpos (by rw[h];decide) (by rw[h];decide);omega
   ·omega
  have hG:=TY l.length l r (aM2 _) hg hlt;have hd:(l++r).drop (G (l++r)).1=l.drop (G l).1++r:=by rw[<-hG,List.drop_append_of_le_length (by rw[hG];omega)]
  rw[hd] at hk;have hne:l.drop (G l).1≠[]:=by
   intro e;have:=aNs List.length e;rw[aMP,hG] at this;simp only[aNw] at this;omega
  have hIn:In (l.drop (G l).1) r:=by
   unfold In;rw[aMP,hG];rw[hG] at hk hne;rcases hk with⟨h,h'⟩ |⟨h,h'⟩ |⟨h,h'⟩
   ·exact .inl ⟨h,by omega⟩
   ·exact .inr (.inl ⟨h,hne⟩)
   ·exact .inr (.inr ⟨h,by omega⟩)
  obtain⟨_,hW⟩:=aKf hne hIn;have hg':(G l).2=true:=by rw[hG];exact hg
  rw[aDc r' hg' hW,aDc r hg' hW]
 ·rw[aMK hg] at hk;rcases hk with⟨h,_⟩ |⟨h,_⟩ |⟨h,_⟩
  ·exact absurd h (show¬(0:Int)=1 by decide)
  ·exact absurd h (show¬(0:Int)=3 by decide)
  ·exact absurd h (show¬(0:Int)=2 by decide)
structure J0 (s s':List UInt8) (P P' n:Nat):Prop where
 le:P+n<=s.length
 le':P'+n<=s'.length
 eq:(s.drop P).take n=(s'.drop P').take n
theorem J0.tok {s s':List UInt8}{P P' n j:Nat}(h:J0 s s' P P' n) (hj:j<=n) (hk:(kS s (P+j)=1/\nS s (P+j)<=P+n)\/(kS s (P+j)=3/\nS s (P+j)<=P+n)\/(kS s (P+j)=2/\nS s (P+j)<P+n)):
  kS s' (P'+j)=kS s (P+j)/\xS s' (P'+j)=xS s (P+j)/\∃m,nS s (P+j)=P+m/\nS s' (P'+j)=P'+m/\j<=m/\m<=n:=by
 obtain⟨l,hl⟩: ∃l,((s.drop P).take n).drop j=l:=⟨_,rfl⟩;have hll:l.length=n-j:=by
  rw[<-hl,aMP,aM5,aMP];have:=h.le;omega
 have e1:s.drop (P+j)=l++s.drop (P+n):=by
  have h1:s.drop P=(s.drop P).take n++s.drop (P+n):=by
   conv=>lhs;rw[<-aNO n (s.drop P)]
   rw[aNo]
  rw[<-aNo,h1,List.drop_append_of_le_length (by rw[aM5,aMP];have:=h.le;omega),hl]
 have e2:s'.drop (P'+j)=l++s'.drop (P'+n):=by
  have h1:s'.drop P'=(s'.drop P').take n++s'.drop (P'+n):=by
   conv=>lhs;rw[<-aNO n (s'.drop P')]
   rw[aNo]
  rw[<-aNo,h1,List.drop_append_of_le_length (by rw[aM5,aMP];have:=h.le';omega),<-h.eq,hl]
 unfold kS xS nS at*;rw[e1] at hk⊢;rw[e2];have hsw:=aKg (l:=l) (r:=s.drop (P+n)) (s'.drop (P'+n)) (by
  rw[hll];rcases hk with⟨a,b⟩ |⟨a,b⟩ |⟨a,b⟩
  ·exact .inl ⟨a,by omega⟩
  ·exact .inr (.inl ⟨a,by omega⟩)
  ·exact .inr (.inr ⟨a,by omega⟩))
 rw[hsw];refine⟨rfl,rfl,j+(rY (l++s.drop (P+n))).2.2.2,by omega,by omega,by omega,?_⟩;rcases hk with⟨a,b⟩ |⟨a,b⟩ |⟨a,b⟩<;>omega
inductive zJ (s:List UInt8) (Q:Nat) (sr tg:List UInt8) (cm fg:List (List UInt8)) (st:Int) (fd:List rC) (d1 d2 d3:Bool):Bool->Nat->List UInt8->List UInt8->List (List UInt8)->List (List UInt8)->Int->List rC->Bool->Bool->Bool->Prop
 |com {hd:Bool}(h1:xS s Q=w5) (h2: ¬20<=cm.length) (h3:kS s (nS s Q)=1):zJ s Q sr tg cm fg st fd d1 d2 d3 hd (nS s (nS s Q)) sr tg (cm++[xS s (nS s Q)]) fg st fd d1 d2 d3
 |fld {hd:Bool}(h1:xS s Q=xK) (h2:kS s (nS s Q)=1) (h3:rT (xS s (nS s Q))=true) (h4:(fd.any fun y=>decide (y.1=xS s (nS s Q)))=false) (h5: ¬20<=fd.length) (h6:kS s (nS s (nS s Q))=1):zJ s Q sr tg cm fg st fd d1 d2 d3 hd (nS s (nS s (nS s Q))) sr tg cm fg st (AQ fd (xS s (nS s Q)) (xS s (nS s (nS s Q)))) d1 d2 d3
 |flg (h1:xS s Q=BK) (h2:kS s (nS s Q)=2) (h3:rT (xS s (nS s Q))=true) (h4:(fg.any fun y=>decide (y=xS s (nS s Q)))=false) (h5: ¬20<=fg.length):zJ s Q sr tg cm fg st fd d1 d2 d3 false (nS s (nS s Q)) sr tg cm (DY fg (xS s (nS s Q))) st fd d1 d2 d3
 |src (h1:xS s Q=sN) (h2:d1=false) (h3:kS s (nS s Q)=1):zJ s Q sr tg cm fg st fd d1 d2 d3 false (nS s (nS s Q)) (xS s (nS s Q)) tg cm fg st fd true d2 d3
 |tgt (h1:xS s Q=sO) (h2:d2=false) (h3:kS s (nS s Q)=1):zJ s Q sr tg cm fg st fd d1 d2 d3 false (nS s (nS s Q)) sr (xS s (nS s Q)) cm fg st fd d1 true d3
 |sta (h1:xS s Q=sX) (h2:d3=false) (h3:kS s (nS s Q)=2) (h4: ¬sS (xS s (nS s Q))<0):zJ s Q sr tg cm fg st fd d1 d2 d3 false (nS s (nS s Q)) sr tg cm fg (sS (xS s (nS s Q))) fd d1 d2 true
section
variable {s s':List UInt8}{P P' n j Q P1:Nat}{sr tg sr2 tg2:List UInt8}{cm fg cm2 fg2:List (List UInt8)}{st st2:Int}{fd fd2:List rC}{d1 d2 d3 e1 e2 e3 hd:Bool}
theorem aKh (ht:J0 s s' P P' n) (hj:j<=n) (h:zJ s (P+j) sr tg cm fg st fd d1 d2 d3 hd P1 sr2 tg2 cm2 fg2 st2 fd2 e1 e2 e3) (hk:kS s (P+j)=2) (hP1:P1<P+n):
  kS s' (P'+j)=2/\∃m,P1=P+m/\m<=n/\zJ s' (P'+j) sr tg cm fg st fd d1 d2 d3 hd (P'+m) sr2 tg2 cm2 fg2 st2 fd2 e1 e2 e3:=by
 cases h with
 |com h1 h2 h3=>
  have p2:=uW (s:=s) (P:=nS s (P+j)) (by omega) (by omega);obtain⟨k1,x1,m1,a1,b1,c1,c2⟩:=ht.tok hj (.inr (.inr ⟨hk,by omega⟩));rw[a1] at h3 hP1 p2⊢;obtain⟨k2,x2,m2,a2,b2,c3,c4⟩:=ht.tok c2 (.inl ⟨h3,by omega⟩);refine⟨by rw[k1];exact hk,m2,a2,c4,?_⟩;have:=zJ.com (s:=s') (Q:=P'+j) (sr:=sr) (tg:=tg) (cm:=cm) (fg:=fg) (st:=st) (fd:=fd) (d1:=d1) (d2:=d2) (d3:=d3) (hd:=hd) (by rw[x1];exact h1) h2 (by rw[b1,k2];exact h3);rw[b1,b2,x2] at this;exact this
 |fld h1 h2 h3 h4 h5 h6=>
  have p2:=uW (s:=s) (P:=nS s (P+j)) (by omega) (by omega);have p3:=uW (s:=s) (P:=nS s (nS s (P+j))) (by omega) (by omega);obtain⟨k1,x1,m1,a1,b1,c1,c2⟩:=ht.tok hj (.inr (.inr ⟨hk,by omega⟩));rw[a1] at h2 h3 h4 h6 hP1 p2 p3⊢;obtain⟨k2,x2,m2,a2,b2,c3,c4⟩:=ht.tok c2 (.inl ⟨h2,by omega⟩);rw[a2] at h6 hP1 p2 p3⊢;obtain⟨k3,x3,m3,a3,b3,c5,c6⟩:=ht.tok c4 (.inl ⟨h6,by omega⟩);refine⟨by rw[k1];exact hk,m3,a3,c6,?_⟩;have:=zJ.fld (s:=s') (Q:=P'+j) (sr:=sr) (tg:=tg) (cm:=cm) (fg:=fg) (st:=st) (fd:=fd) (d1:=d1) (d2:=d2) (d3:=d3) (hd:=hd) (by rw[x1];exact h1) (by rw[b1,k2];exact h2) (by rw[b1,x2];exact h3) (by rw[b1,x2];exact h4) h5 (by rw[b1,b2,k3];exact h6);rw[b1,b2,b3,x2,x3] at this;exact this
 |flg h1 h2 h3 h4 h5=>
  have p2:=uW (s:=s) (P:=nS s (P+j)) (by omega) (by omega);obtain⟨k1,x1,m1,a1,b1,c1,c2⟩:=ht.tok hj (.inr (.inr ⟨hk,by omega⟩));rw[a1] at h2 h3 h4 hP1 p2⊢;obtain⟨k2,x2,m2,a2,b2,c3,c4⟩:=ht.tok c2 (.inr (.inr ⟨h2,by omega⟩));refine⟨by rw[k1];exact hk,m2,a2,c4,?_⟩;have:=zJ.flg (s:=s') (Q:=P'+j) (sr:=sr) (tg:=tg) (cm:=cm) (fg:=fg) (st:=st) (fd:=fd) (d1:=d1) (d2:=d2) (d3:=d3) (by rw[x1];exact h1) (by rw[b1,k2];exact h2) (by rw[b1,x2];exact h3) (by rw[b1,x2];exact h4) h5;rw[b1,b2,x2] at this;exact this
 |src h1 h2 h3=>
  have p2:=uW (s:=s) (P:=nS s (P+j)) (by omega) (by omega);obtain⟨k1,x1,m1,a1,b1,c1,c2⟩:=ht.tok hj (.inr (.inr ⟨hk,by omega⟩));rw[a1] at h3 hP1 p2⊢;obtain⟨k2,x2,m2,a2,b2,c3,c4⟩:=ht.tok c2 (.inl ⟨h3,by omega⟩);refine⟨by rw[k1];exact hk,m2,a2,c4,?_⟩;have:=zJ.src (s:=s') (Q:=P'+j) (sr:=sr) (tg:=tg) (cm:=cm) (fg:=fg) (st:=st) (fd:=fd) (d1:=d1) (d2:=d2) (d3:=d3) (by rw[x1];exact h1) h2 (by rw[b1,k2];exact h3);rw[b1,b2,x2] at this;exact this
 |tgt h1 h2 h3=>
  have p2:=uW (s:=s) (P:=nS s (P+j)) (by omega) (by omega);obtain⟨k1,x1,m1,a1,b1,c1,c2⟩:=ht.tok hj (.inr (.inr ⟨hk,by omega⟩));rw[a1] at h3 hP1 p2⊢;obtain⟨k2,x2,m2,a2,b2,c3,c4⟩:=ht.tok c2 (.inl ⟨h3,by omega⟩);refine⟨by rw[k1];exact hk,m2,a2,c4,?_⟩;have:=zJ.tgt (s:=s') (Q:=P'+j) (sr:=sr) (tg:=tg) (cm:=cm) (fg:=fg) (st:=st) (fd:=fd) (d1:=d1) (d2:=d2) (d3:=d3) (by rw[x1];exact h1) h2 (by rw[b1,k2];exact h3);rw[b1,b2,x2] at this;exact this
 |sta h1 h2 h3 h4=>
  have p2:=uW (s:=s) (P:=nS s (P+j)) (by omega) (by omega);obtain⟨k1,x1,m1,a1,b1,c1,c2⟩:=ht.tok hj (.inr (.inr ⟨hk,by omega⟩));rw[a1] at h3 h4 hP1 p2⊢;obtain⟨k2,x2,m2,a2,b2,c3,c4⟩:=ht.tok c2 (.inr (.inr ⟨h3,by omega⟩));refine⟨by rw[k1];exact hk,m2,a2,c4,?_⟩;have:=zJ.sta (s:=s') (Q:=P'+j) (sr:=sr) (tg:=tg) (cm:=cm) (fg:=fg) (st:=st) (fd:=fd) (d1:=d1) (d2:=d2) (d3:=d3) (by rw[x1];exact h1) h2 (by rw[b1,k2];exact h3) (by rw[b1,x2];exact h4);rw[b1,b2,x2] at this;exact this
theorem aKi (hsm:s.length<=4000000000) {c:C4}{bad bad0 at0 e0:Int}{ends:List Int}{i:qT}(hQ:Q<=s.length) (hk:kS s Q=2) (hf:fd.length<=1000) (hg:fg.length<=1000) (h:zJ s Q sr tg cm fg st fd d1 d2 d3 hd P1 sr2 tg2 cm2 fg2 st2 fd2 e1 e2 e3):
  w4 (s,(at0,(bad0,(e0,(c,(ends,())))))) i hd ((Q:Int),bad,0,sr,tg,cm,fg,st,fd,d1,d2,d3)=some (.inl ((P1:Int),bad,0,sr2,tg2,cm2,fg2,st2,fd2,e1,e2,e3)):=by
 have hQ2:=(rU hQ).2;rw[D3 hsm hQ hk];cases h with
 |com h1 h2 h3=>rw[TF hsm hQ2 h1 h2,aMH,aMI h3]
 |fld h1 h2 h3 h4 h5 h6=>
  rw[TG hsm hQ2 h1 hf,aMH];unfold DX;rw[aMK (by simp [h2]),aMK (by simp [h3]),aMK (by simp [h4]),aMK h5,aMK (by simp [h6])]
 |flg h1 h2 h3 h4 h5=>
  rw[TH hsm hQ2 h1 hg,aMH];unfold DZ;rw[aMK (by simp [h2]),aMK (by simp [h3]),aMK (by simp [h4]),aMK h5]
 |src h1 h2 h3=>
  subst h2;rw[FJ hsm hQ2 (by rw[h1];decide) (by rw[h1];decide) (by rw[h1];decide),aMH,aMK (by rw[h1];simp),aMI h1,aMI h3]
 |tgt h1 h2 h3=>
  subst h2;rw[FJ hsm hQ2 (by rw[h1];decide) (by rw[h1];decide) (by rw[h1];decide),aMH,aMK (by rw[h1];simp),aMK (by rw[h1];decide),aMI h1,aMI h3]
 |sta h1 h2 h3 h4=>
  subst h2;rw[FJ hsm hQ2 (by rw[h1];decide) (by rw[h1];decide) (by rw[h1];decide),aMH,aMK (by rw[h1];simp),aMK (by rw[h1];decide),aMK (by rw[h1];decide),aMI h1,aMI h3,aMK h4]
end
section
variable {s:List UInt8}{Q:Nat}{sr tg:List UInt8}{cm fg:List (List UInt8)}{st:Int}{fd:List rC}{d1 d2 d3 hd:Bool}
theorem aKj (hsm:s.length<=4000000000) {c:C4}{bad bad0 at0 e0:Int}{ends:List Int}{i:qT}(hQ:Q<=s.length) (hk:kS s Q=2) (hf:fd.length<=1000) (hg:fg.length<=1000) {rs:FK}
  (h:w4 (s,(at0,(bad0,(e0,(c,(ends,())))))) i hd ((Q:Int),bad,0,sr,tg,cm,fg,st,fd,d1,d2,d3)=some (.inl rs)) (he:rs.2.2.1=0):
  ∃(P1:Nat) (sr2 tg2:List UInt8) (cm2 fg2:List (List UInt8)) (st2:Int) (fd2:List rC) (e1 e2 e3:Bool),rs=((P1:Int),bad,0,sr2,tg2,cm2,fg2,st2,fd2,e1,e2,e3)/\zJ s Q sr tg cm fg st fd d1 d2 d3 hd P1 sr2 tg2 cm2 fg2 st2 fd2 e1 e2 e3:=by
 have hQ2:=(rU hQ).2;rw[D3 hsm hQ hk] at h;have nope: ∀{x:FK},some (Sum.inl x)=some (Sum.inl (β:=S9⊕E2) rs)->x.2.2.1≠0->False:=fun hx hn=>by
  have:=Sum.inl.inj (aML hx);rw[this] at hn;exact hn he
 have e3:(3:Int)≠0:=by decide
 have e6:(6:Int)≠0:=by decide
 have e9:(9:Int)≠0:=by decide
 by_cases h1:xS s Q=w5
 ·by_cases h20:20<=cm.length
  ·rw[a4P hsm hQ2 h1 h20,aMH] at h;exact(nope h e6).elim
  ·rw[TF hsm hQ2 h1 h20,aMH] at h;by_cases k1:kS s (nS s Q)=1
   ·rw[aMI k1] at h;exact⟨_,_,_,_,_,_,_,_,_,_,(Sum.inl.inj (aML h)).symm,.com h1 h20 k1⟩
   ·rw[aMK k1] at h;exact(nope h e3).elim
 ·by_cases h2:xS s Q=xK
  ·rw[TG hsm hQ2 h2 hf,aMH] at h;unfold DX at h;by_cases k1:kS s (nS s Q)≠1
   ·rw[aMI k1] at h;exact(nope h e3).elim
   ·rw[aMK k1] at h;by_cases k2:rT (xS s (nS s Q))=false
    ·rw[aMI k2] at h;exact(nope h e3).elim
    ·rw[aMK k2] at h;by_cases k3:(fd.any fun y=>decide (y.1=xS s (nS s Q)))=true
     ·rw[aMI k3] at h;exact(nope h e9).elim
     ·rw[aMK k3] at h;by_cases k4:20<=fd.length
      ·rw[aMI k4] at h;exact(nope h e6).elim
      ·rw[aMK k4] at h;by_cases k5:kS s (nS s (nS s Q))≠1
       ·rw[aMI k5] at h;exact(nope h e3).elim
       ·rw[aMK k5] at h;exact⟨_,_,_,_,_,_,_,_,_,_,(Sum.inl.inj (aML h)).symm,.fld h2 (by omega) (by simpa using k2) (Bool.eq_false_iff.2 k3) k4 (by omega)⟩
  ·cases hd with
   |true=>
    rw[a4Q hsm hQ2 h1 h2,aMH] at h;exact(nope h e3).elim
   |false=>
    by_cases h3:xS s Q=BK
    ·rw[TH hsm hQ2 h3 hg,aMH] at h;unfold DZ at h;by_cases k1:kS s (nS s Q)≠2
     ·rw[aMI k1] at h;exact(nope h e3).elim
     ·rw[aMK k1] at h;by_cases k2:rT (xS s (nS s Q))=false
      ·rw[aMI k2] at h;exact(nope h e3).elim
      ·rw[aMK k2] at h;by_cases k3:(fg.any fun y=>decide (y=xS s (nS s Q)))=true
       ·rw[aMI k3] at h;exact(nope h e9).elim
       ·rw[aMK k3] at h;by_cases k4:20<=fg.length
        ·rw[aMI k4] at h;exact(nope h e6).elim
        ·rw[aMK k4] at h;exact⟨_,_,_,_,_,_,_,_,_,_,(Sum.inl.inj (aML h)).symm,.flg h3 (by omega) (by simpa using k2) (Bool.eq_false_iff.2 k3) k4⟩
    ·rw[FJ hsm hQ2 h1 h2 h3,aMH] at h;by_cases k0:((decide (xS s Q=sN)&&d1)||(decide (xS s Q=sO)&&d2)||(decide (xS s Q=sX)&&d3))=true
     ·rw[aMI k0] at h;exact(nope h e9).elim
     ·rw[aMK k0] at h;simp only[aNz,aMS,aMQ,not_or,not_and,aNZ] at k0;by_cases a1:xS s Q=sN
      ·rw[aMI a1] at h;by_cases k1:kS s (nS s Q)=1
       ·rw[aMI k1] at h;exact⟨_,_,_,_,_,_,_,_,_,_,(Sum.inl.inj (aML h)).symm,.src a1 (k0.1.1 a1) k1⟩
       ·rw[aMK k1] at h;exact(nope h e3).elim
      ·rw[aMK a1] at h;by_cases a2:xS s Q=sO
       ·rw[aMI a2] at h;by_cases k1:kS s (nS s Q)=1
        ·rw[aMI k1] at h;exact⟨_,_,_,_,_,_,_,_,_,_,(Sum.inl.inj (aML h)).symm,.tgt a2 (k0.1.2 a2) k1⟩
        ·rw[aMK k1] at h;exact(nope h e3).elim
       ·rw[aMK a2] at h;by_cases a3:xS s Q=sX
        ·rw[aMI a3] at h;by_cases k1:kS s (nS s Q)=2
         ·rw[aMI k1] at h;by_cases k2:sS (xS s (nS s Q))<0
          ·rw[aMI k2] at h;exact(nope h e3).elim
          ·rw[aMK k2] at h;exact⟨_,_,_,_,_,_,_,_,_,_,(Sum.inl.inj (aML h)).symm,.sta a3 (k0.2 a3) k1 k2⟩
         ·rw[aMK k1] at h;exact(nope h e3).elim
        ·rw[aMK a3] at h;exact(nope h e3).elim
end
theorem aDf {s s':List UInt8}(hsm:s.length<=4000000000) (hsm':s'.length<=4000000000) {P P' n:Nat}(ht:J0 s s' P P' n) {hd:Bool}{c c':C4}{bad bad' bad0 bad0' at0 at0' e0 e0':Int}{ends ends':List Int}{i i':qT}(he:ends.length<=5000) (he':ends'.length<=5000) {tX:List UInt8×List UInt8×List (List UInt8)×List (List UInt8)×Int×List rC}{bad2:Int}{ends2:List Int}:
  ∀(k j:Nat) (sr tg:List UInt8) (cm fg:List (List UInt8)) (st:Int) (fd:List rC) (d1 d2 d3:Bool),s.length- (P+j)<=k->j<=n->H0 sr tg cm fg st fd->
  pR (w4 (s,(at0,(bad0,(e0,(c,(ends,())))))) i hd) (((P+j:Nat):Int),bad,0,sr,tg,cm,fg,st,fd,d1,d2,d3)=some (.inr (((P+n:Nat):Int),bad2,0,ends2,tX))->
  pR (w4 (s',(at0',(bad0',(e0',(c',(ends',())))))) i' hd) (((P'+j:Nat):Int),bad',0,sr,tg,cm,fg,st,fd,d1,d2,d3)=some (.inr (((P'+n:Nat):Int),bad',0,ends'++[((P'+n:Nat):Int)],tX))
 |k,j,sr,tg,cm,fg,st,fd,d1,d2,d3,hk,hj,hB,h=>by
  have hP:P+j<=s.length:=by have:=ht.le;omega
  have hP':P'+j<=s'.length:=by have:=ht.le';omega
  have hfl:fd.length<=1000:=by have:=(OL hB.fd).1;omega
  have hgl:fg.length<=1000:=by have:=(TR hB.fg).1;omega
  by_cases h2:kS s (P+j)=2
  ·obtain⟨rs,r1,r2⟩:=aC3 (c:=c) (bad:=bad) (bad0:=bad0) (at0:=at0) (e0:=e0) (ends:=ends) (i:=i) (hd:=hd) (d1:=d1) (d2:=d2) (d3:=d3) hsm hP h2 hB;rw[D4 r1] at h;rcases r2 with r2|⟨P1,sr2,tg2,cm2,fg2,st2,fd2,e1,e2,e3,p1,p2,rfl,hB2⟩
   ·obtain⟨p,b,e,q1,q2,q3,q4,q5,q6,q7,q8,q9⟩:=rs;rw[tJ (IX r2)] at h;cases h
   ·obtain⟨P1',sr3,tg3,cm3,fg3,st3,fd3,f1,f2,f3,hrs,hR⟩:=aKj hsm hP h2 hfl hgl r1 rfl;have hPP:P1=P1':=by
     have:=aNs (fun x:FK=>x.1) hrs;have this:(P1:Int)=(P1':Int):=this;omega
    subst hPP;simp only[aM9,true_and] at hrs;obtain⟨rfl,rfl,rfl,rfl,rfl,rfl,rfl,rfl,rfl⟩:=hrs;obtain⟨ro,g1,g2⟩:=TS (c:=c) (bad:=bad) (bad0:=bad0) (at0:=at0) (e0:=e0) (i:=i) (hd:=hd) hsm he s.length P1 sr2 tg2 cm2 fg2 st2 fd2 e1 e2 e3 (by omega) p2 hB2;have hlt:P1<P+n:=by
     rw[h] at g1;cases g1;rcases g2 with⟨_,g,_⟩ |⟨_,g,g'⟩ |⟨P3,_,_,_,_,_,_,g3,_,g4,_⟩
     ·cases g
     ·cases g;exact absurd rfl g'
     ·have:=aNs (fun x:S9⊕E2=>match x with| .inl _=>(0:Int) | .inr y=>y.1) g4
      have this:((P+n:Nat):Int)=(P3:Int):=this;omega
    obtain⟨t1,m,t2,t3,t4⟩:=aKh ht hj hR h2 hlt;subst t2;rw[D4 (aKi hsm' hP' t1 hfl hgl t4)]
    match k,hk with
    |0,hk=>exact absurd p2 (by omega)
    |k+1,hk=>exact aDf hsm hsm' ht he he' k m _ _ _ _ _ _ _ _ _ (by omega) t3 hB2 h
  ·by_cases hx:kS s (P+j)=3/\xS s (P+j)=[125]
   ·rw[tJ (TL hsm hP hx.1 hx.2 he)] at h;simp only[aMJ,Sum.inr.injEq,aM9] at h;obtain⟨g1,_,_,_,g2⟩:=h;have g1:(nS s (P+j):Int)=((P+n:Nat):Int):=g1;obtain⟨k1,x1,m,a1,b1,_,_⟩:=ht.tok hj (.inr (.inl ⟨hx.1,by omega⟩));have hm:m=n:=by omega
    subst hm;rw[tJ (TL hsm' hP' (by rw[k1];exact hx.1) (by rw[x1];exact hx.2) he'),b1,g2]
   ·rw[tJ (a4T hsm hP h2 hx)] at h;simp at h
end Go.Proofs.YtbbpilohihldiaaGreatDoor
namespace Go.Proofs.YtbbpilohihldiaaGreatDoor
open Vc
section
variable {s s':List UInt8}(hsm:s.length<=4000000000) (hsm':s'.length<=4000000000) {P P' n j:Nat}(ht:J0 s s' P P' n) (hj:j<=n)
include hsm hsm' ht hj
theorem aDg {x:List UInt8}{hd:Bool}{c c':C4}{bad bad' bad2:Int}{ends ends' ends2:List Int}(he:ends.length<=5000) (he':ends'.length<=5000) {tX:List UInt8×List UInt8×List (List UInt8)×List (List UInt8)×Int×List rC}
  (h:uE (s,(((P+j:Nat):Int),(bad,(0,(c,(ends,())))))) (i0 x) hd=some (((P+n:Nat):Int),bad2,0,ends2,tX)):
  uE (s',(((P'+j:Nat):Int),(bad',(0,(c',(ends',())))))) (i0 x) hd=some (((P'+n:Nat):Int),bad',0,ends'++[((P'+n:Nat):Int)],tX):=by
 have hP:P+j<=s.length:=by have:=ht.le;omega
 have hP':P'+j<=s'.length:=by have:=ht.le';omega
 unfold uE at h;rw[yG hsm hP,aMH] at h;by_cases h1:(decide (kR (kS s (P+j))=3)&&(decide (([123]:List UInt8)=[])||decide (xS s (P+j)=[123])))=true
 ·rw[u6 h1] at h;dsimp only at h;have hQ:=rU hP;have h1':=h1;simp only[aMS,aNz,aMQ] at h1';have hk:kS s (P+j)=3:=(yF (by decide) (by decide)).1 h1'.1;have hx:xS s (P+j)=[123]:=h1'.2.resolve_left (by simp);obtain⟨ro,g1,g2⟩:=TS (c:=c) (bad:=bad) (bad0:=bad) (at0:=((P+j:Nat):Int)) (e0:=0) (i:=i0 x) (hd:=hd) hsm he s.length (nS s (P+j)) [] [] [] [] 0 [] false false false (by omega) hQ.2 a40;have g1':pR (w4 (s,(((P+j:Nat):Int),(bad,((0:Int),(c,(ends,())))))) (i0 x) hd) ((nS s (P+j):Int),bad,0,(i0 x).2.1,(i0 x).2.2.1,(i0 x).2.2.2.1,(i0 x).2.2.2.2.1,(i0 x).2.2.2.2.2.1,(i0 x).2.2.2.2.2.2.1,false,false,false)=some ro:=g1;rw[g1'] at h;rcases g2 with⟨r9,rfl,g2⟩ |⟨r10,rfl,g2⟩ |⟨P2,a1,a2,a3,a4,a5,a6,q1,q2,rfl,q3⟩
  ·have:=aML h;simp only[aM9] at this;exact absurd this.2.2.1 g2
  ·have:r10=_:=aML h;rw[this] at g2;exact absurd rfl g2
  ·have hr:=aML h;simp only[aM9] at hr;have hpn:(P2:Int)=((P+n:Nat):Int):=hr.1;obtain⟨k1,x1,m,b1,b2,_,b4⟩:=ht.tok hj (.inr (.inl ⟨hk,by omega⟩));have hl:pR (w4 (s,(((P+j:Nat):Int),(bad,((0:Int),(c,(ends,())))))) (i0 x) hd) (((P+m:Nat):Int),bad,0,[],[],[],[],0,[],false,false,false)=some (.inr (((P+n:Nat):Int),bad2,0,ends2,tX)):=by
    rw[<-b1];refine g1.trans ?_;congr 2;exact aML h
   have hl':=aDf (bad':=bad') (c':=c') (bad0':=bad') (at0':=((P'+j:Nat):Int)) (e0':=0) (i':=i0 x) hsm hsm' ht he he' s.length m [] [] [] [] 0 [] false false false (by omega) b4 a40 hl;unfold uE;rw[yG hsm' hP',aMH,u6 (by rw[k1,x1];exact h1)];dsimp only;rw[b2];have hl2:pR (w4 (s',(((P'+j:Nat):Int),(bad',((0:Int),(c',(ends',())))))) (i0 x) hd) (((P'+m:Nat):Int),bad',0,(i0 x).2.1,(i0 x).2.2.1,(i0 x).2.2.2.1,(i0 x).2.2.2.2.1,(i0 x).2.2.2.2.2.1,(i0 x).2.2.2.2.2.2.1,false,false,false)=_:=hl';rw[hl2];rfl
 ·rw[vA h1] at h;dsimp only at h;rw[tJ (IX (show (3:Int)≠0 by decide))] at h;have:=aML h;simp only[aM9] at this;exact absurd this.2.2.1 (by decide)
theorem aKk {tag tag':List UInt8}{cms cms':List (List UInt8)}{fds fds':List rC}{es es' es2:List tY}{bad bad' bad2:Int}{ends ends' ends2:List Int}(he:ends.length<=5000) (he':ends'.length<=5000) (hes:E3 es) (hes':es'.length<1000)
  (h:zB (s,(((P+j:Nat):Int),(bad,(0,((tag,(cms,(fds,(es,())))),(ends,()))))))=some (((P+n:Nat):Int),bad2,0,es2,ends2)) (hnew: ∀y,es2=es++[y]->(es'.any fun z=>decide (z.1=y.1))=false):
  ∃y,es2=es++[y]/\zB (s',(((P'+j:Nat):Int),(bad',(0,((tag',(cms',(fds',(es',())))),(ends',()))))))=some (((P'+n:Nat):Int),bad',0,es'++[y],ends'++[((P'+n:Nat):Int)]):=by
 have hP:P+j<=s.length:=by have:=ht.le;omega
 have hP':P'+j<=s'.length:=by have:=ht.le';omega
 have hQ:=rU hP;have hR:=rU hQ.2;have e3:(3:Int)≠0:=by decide
 have nope: ∀{x:E5},some x=some ((((P+n:Nat):Int),bad2,0,es2,ends2):E5)->x.2.2.1≠0->False:=fun hx hn=>by
  rw[aML hx] at hn;exact hn rfl
 unfold zB at h;rw[yG hsm hP,aMH] at h;by_cases h0:(decide (kR (kS s (P+j))=2)&&(decide (([101,110,116,114,121]:List UInt8)=[])||decide (xS s (P+j)=[101,110,116,114,121])))=true
 ·have hk:kS s (P+j)=2:=(yF (by decide) (by decide)).1 (by rw[aMS,aMQ] at h0;exact h0.1);have hPQ:P+j<nS s (P+j):=uW (by omega) (by omega);rw[u6 h0] at h;dsimp only at h;rw[A2 hsm hQ.2 (by decide) (by decide),aMH] at h;by_cases hk1:kS s (nS s (P+j))=1
  ·have hQR:nS s (P+j)<nS s (nS s (P+j)):=uW (by omega) (by omega);rw[u6 (by simpa using hk1)] at h;dsimp only at h;rw[aMK (show¬(!decide ((0:Int)=0))=true from by decide),TN _ _ (show es.length<=5000 by have:=hes.len;omega),aMH,TM] at h;dsimp only at h;by_cases hid:(decide (xS s (nS s (P+j))=[])||decide ((200:Int)<((xS s (nS s (P+j))).length:Int)))=true
   ·rw[aMI hid] at h;unfold qW at h;rw[uV] at h;exact(nope h e3).elim
   ·rw[aMK hid] at h;by_cases hdup:(es.any fun y=>decide (y.1=xS s (nS s (P+j))))=true
    ·rw[aMI hdup] at h;unfold qW at h;rw[uV] at h;exact(nope h (show (9:Int)≠0 by decide)).elim
    ·rw[aMK hdup] at h;by_cases hm:(1000:Int)<=(es.length:Int)
     ·rw[aMI (show decide ((1000:Int)<=(es.length:Int))=true from aNK hm)] at h;unfold qW at h;rw[uV] at h;exact(nope h (show (6:Int)≠0 by decide)).elim
     ·rw[aMK (show¬decide ((1000:Int)<=(es.length:Int))=true from by simpa using hm)] at h;obtain⟨r,g1,g2⟩:=TT (c:=(tag,(cms,(fds,(es,()))))) (bad:=bad) (hd:=false) (x:=xS s (nS s (P+j))) hsm hR.2 he;have g1':uE (s,((nS s (nS s (P+j)):Int),(bad,((0:Int),((tag,(cms,(fds,(es,())))),(ends,())))))) (xS s (nS s (P+j)),([],([],([],([],(0,([],()))))))) false=some r:=g1;rw[g1',aMH,aMI (by simp;omega),aMI (by simp;omega)] at h;rcases g2 with g2|⟨P2,sr,tg,cm,fg,st,fd,q1,q2,rfl,q3⟩
      ·exact(nope h g2).elim
      ·have hr:=aML h;simp only[aM9] at hr;have hpn:(P2:Int)=((P+n:Nat):Int):=hr.1;have hes2:=hr.2.2.2.1;obtain⟨k1,x1,m1,a1,b1,_,c2⟩:=ht.tok hj (.inr (.inr ⟨hk,by omega⟩));have hk1':=hk1;rw[a1] at hk1';obtain⟨k2,x2,m2,a2,b2,_,c4⟩:=ht.tok c2 (.inl ⟨hk1',by rw[<-a1];omega⟩);have hpos:nS s (nS s (P+j))=P+m2:=by rw[a1];exact a2
       have hB:uE (s,(((P+m2:Nat):Int),(bad,(0,((tag,(cms,(fds,(es,())))),(ends,())))))) (i0 (xS s (nS s (P+j)))) false=some (((P+n:Nat):Int),bad,0,ends++[(P2:Int)],sr,tg,cm,fg,st,fd):=by
        rw[<-hpos,<-hpn];exact g1
       have hB':=aDg (bad':=bad') (c':=(tag',(cms',(fds',(es',()))))) (ends':=ends') hsm hsm' ht c4 he he' hB;refine⟨(xS s (nS s (P+j)),(sr,(tg,(cm,(fg,(st,(fd,()))))))),by rw[<-hes2];simp,?_⟩;have hnw:=hnew (xS s (nS s (P+j)),(sr,(tg,(cm,(fg,(st,(fd,()))))))) (by rw[<-hes2];simp);unfold zB;rw[yG hsm' hP',aMH,u6 (by rw[k1,x1];exact h0)];dsimp only;have hQ':=rU hP';have hxx:xS s' (nS s' (P'+j))=xS s (nS s (P+j)):=by rw[b1,x2,a1]
       rw[A2 hsm' hQ'.2 (by decide) (by decide),aMH,u6 (by rw[b1,k2];simpa using hk1')];dsimp only;rw[aMK (show¬(!decide ((0:Int)=0))=true from by decide),TN _ _ (show es'.length<=5000 by omega),aMH,TM];dsimp only;rw[hxx,aMK hid,aMK (fun hh=>aOK (hnw.symm.trans hh)),aMK (show¬decide ((1000:Int)<=(es'.length:Int))=true from by simp;omega)];have hB2:uE (s',((nS s' (nS s' (P'+j)):Int),(bad',((0:Int),((tag',(cms',(fds',(es',())))),(ends',())))))) (xS s (nS s (P+j)),([],([],([],([],(0,([],()))))))) false=some (((P'+n:Nat):Int),bad',0,ends'++[((P'+n:Nat):Int)],sr,tg,cm,fg,st,fd):=by
        rw[b1,b2];exact hB'
       rw[hB2,aMH,aMI (by simp;omega),aMI (by simp;omega)];rfl
  ·rw[vA (by simpa using hk1)] at h;dsimp only at h;rw[aMI (show (!decide ((3:Int)=0))=true from by decide)] at h;exact(nope h e3).elim
 ·rw[vA h0] at h;dsimp only at h;rw[FI hsm hP e3,aMH] at h;dsimp only at h;rw[aMI (show (!decide ((3:Int)=0))=true from by decide)] at h;exact(nope h e3).elim
end
def J1 (t:List UInt8) (y:tY):Prop:= ∀(s z:List UInt8) (P:Nat) (bad:Int) (tag:List UInt8) (cms:List (List UInt8)) (fds:List rC) (es:List tY) (ends:List Int),s.length<=4000000000->At s P (t++z)->es.length<1000->(es.any fun w=>decide (w.1=y.1))=false->ends.length<=5000->
 zB (s,((P:Int),(bad,(0,((tag,(cms,(fds,(es,())))),(ends,()))))))=some (((P+t.length:Nat):Int),bad,0,es++[y],ends++[((P+t.length:Nat):Int)])
theorem a47 {s l z:List UInt8}{P:Nat}(h:At s P (l++z)):P+l.length<=s.length:=by
 have h1:=h.le;have h2:=aNs List.length h.eq;rw[aMP,aMN] at h2;omega
theorem OO {s l z:List UInt8}{P:Nat}(h:At s P (l++z)):At s (P+l.length) z:=by
 refine⟨a47 h,?_⟩;rw[<-aNo,h.eq,aOT]
theorem aKl {s:List UInt8}{P n:Nat}{tag:List UInt8}{cms:List (List UInt8)}{fds:List rC}{es:List tY}{y:tY}{bad bad2:Int}{ends ends2:List Int}(hsm:s.length<=4000000000) (hP:P+n<=s.length) (he:ends.length<=5000) (hes:E3 es)
  (h:zB (s,((P:Int),(bad,(0,((tag,(cms,(fds,(es,())))),(ends,()))))))=some (((P+n:Nat):Int),bad2,0,es++[y],ends2)):J1 ((s.drop P).take n) y:=by
 intro s' z P' bad' tag' cms' fds' es' ends' hsm' hA hes' hnew he';have hn:((s.drop P).take n).length=n:=by rw[aM5,aMP];omega
 have hl:=a47 hA;rw[hn] at hl⊢;have ht:J0 s s' P P' n:=⟨hP,hl,by rw[hA.eq,List.take_left' hn]⟩;obtain⟨y',h1,h2⟩:=aKk (j:=0) (tag':=tag') (cms':=cms') (fds':=fds') (es':=es') (bad':=bad') (ends':=ends') hsm hsm' ht (aNt _) he he' hes hes' (by rw[aNN];exact h) (fun w hw=>by
  have:y=w:=by simpa using hw
  rw[<-this];exact hnew)
 have:y=y':=by simpa using h1
 rw[this];exact h2
inductive wY:List (List UInt8)->List tY->Prop
 |nil:wY [] []
 |cons {t:List UInt8}{y:tY}{ts:List (List UInt8)}{ys:List tY}(h:J1 t y) (hs:wY ts ys):wY (t::ts) (y::ys)
theorem aDh {s:List UInt8}(hsm:s.length<=4000000000) {P:Nat}(hP:P<=s.length) {tag:List UInt8}{cms:List (List UInt8)}{fds:List rC}{es:List tY}{bad:Int}{ends:List Int}{r:E5}
  (h:zB (s,((P:Int),(bad,(0,((tag,(cms,(fds,(es,())))),(ends,()))))))=some r) (he:r.2.2.1=0):kS s P=2:=by
 have e3:(3:Int)≠0:=by decide
 unfold zB at h;rw[yG hsm hP,aMH] at h;by_cases h0:(decide (kR (kS s P)=2)&&(decide (([101,110,116,114,121]:List UInt8)=[])||decide (xS s P=[101,110,116,114,121])))=true
 ·exact(yF (by decide) (by decide)).1 (by rw[aMS,aMQ] at h0;exact h0.1)
 ·rw[vA h0] at h;dsimp only at h;rw[FI hsm hP e3,aMH] at h;dsimp only at h;rw[aMI (show (!decide ((3:Int)=0))=true from by decide)] at h;have:=aML h;rw[<-this] at he;exact absurd he e3
theorem aDi {s tl:List UInt8}(ht:(G tl).1=tl.length) (hsm:s.length<=4000000000) {rr:Int×Int×Int×List UInt8×List (List UInt8)×List pL×List Int}: ∀(ts:List (List UInt8)) (ys es:List tY) (P:Nat) (ends:List Int),wY ts ys->At s P (ts.flatten++tl)->(es++ys).Pairwise (fun a b=>a.1≠b.1)->es.length+ys.length<=1000->ends.length<=es.length+1->
  ∃P':Nat,pR (tI s rr) ((P:Int),0,0,es,ends)=some ((P':Int),0,0,es++ys,ends++(ON P ts).map fun n:Nat=>(n:Int))
 |_,_,es,P,ends,.nil,hA,_,_,_=>by
  refine⟨P,?_⟩;have hA':At s P tl:=hA;have hl:=aNs List.length hA'.eq;rw[aMP] at hl;have hg:=LJ (GU hsm) hA.le;rw[hA'.eq,ht] at hg;rw[List.append_nil];refine(xA ?_).trans (by rw[ON,List.map_nil,List.append_nil]);unfold tI;dsimp only;rw[hg,aMI uH,aMK];show¬(decide ((0:Int)=0)&&decide (((P+tl.length:Nat):Int)<(s.length:Int)))=true;simp;omega
 |_,_,es,P,ends,.cons (t:=t) (y:=y) (ts:=ts) (ys:=ys) h hs,hA,hp,hl,hle=>by
  rw[aMO] at hl;have e:(t::ts).flatten++tl=t++(ts.flatten++tl):=by simp
  rw[e] at hA;have hnew:(es.any fun w=>decide (w.1=y.1))=false:=by
   rw[aNG];intro w hw;simpa using(aOj.1 hp).2.2 w hw y aNf
  have h1:=h s _ P 0 rr.2.2.2.1 rr.2.2.2.2.1 rr.2.2.2.2.2.1 es ends hsm hA (by omega) hnew (by omega);have hk:=aDh hsm hA.le h1 rfl;have hlt:P+(G (s.drop P)).1<s.length:=by
   by_cases hh:P+(G (s.drop P)).1<s.length
   ·exact hh
   ·have:=(k4 hA.le).2 hh;omega
  have hg:=LJ (GU hsm) hA.le;obtain⟨P2,h2⟩:=aDi ht hsm (rr:=rr) ts ys (es++[y]) (P+t.length) (ends++[((P+t.length:Nat):Int)]) hs (OO hA) (by rw[aMU,aN6];exact hp) (by rw[aMN,aNI];omega) (by simp only[aMN,aNI];omega);refine⟨P2,?_⟩;have hst:tI s rr ((P:Int),0,0,es,ends)=some (.inl (((P+t.length:Nat):Int),0,0,es++[y],ends++[((P+t.length:Nat):Int)])):=by
   unfold tI;dsimp only;rw[hg,aMI uH,aMI (show (decide ((0:Int)=0)&&decide (val (some (((P+(G (s.drop P)).1:Nat):Int)))<(s.length:Int)))=true from by
    show (decide ((0:Int)=0)&&decide (((P+(G (s.drop P)).1:Nat):Int)<(s.length:Int)))=true;simp;omega),h1,aMH]
  rw[JZ hst,h2,aMU,aMU,aN6,aN6,ON,aNT]
def H4 (s:List UInt8):Nat->List Nat->List (List UInt8)
 |_,[]=>[]
 |P,x::xs=>(s.drop P).take (x-P)::H4 s x xs
theorem aDj (s:List UInt8): ∀(P:Nat) (xs:List Nat),(H4 s P xs).length=xs.length
 |_,[]=>rfl
 |_,x::xs=>by rw[H4,aMO,aMO,aDj]
theorem aDk (s:List UInt8): ∀(xs:List Nat) (P j:Nat),j<xs.length->(H4 s P xs)[j]? =some ((s.drop ((P::xs).getD j 0)).take ((P::xs).getD (j+1) 0- (P::xs).getD j 0))
 |[],_,_,h=>by simp at h
 |x::xs,P,0,_=>by rw[H4];rfl
 |x::xs,P,j+1,h=>by
  rw[H4,aNk,aDk s xs x j (by simpa using h)];rfl
theorem aKm (s:List UInt8) (a:Nat) (xs:List Nat):(BL s (a::xs)).drop 1=H4 s a xs:=by
 apply List.ext_getElem?;intro j;rw[List.getElem?_drop];by_cases hj:j<xs.length
 ·rw[aC9 (by rw[aMO];omega),aDk s xs a j hj];congr 1;show pE s ((if 1+j=0 then 0 else(a::xs).getD (1+j-1) 0:Nat):Int) (((a::xs).getD (1+j) 0:Nat):Int)=_;rw[aMK (by omega),aNv,Nat.add_comm 1 j];unfold pE;rw[aNp,aNp]
 ·rw[aNP (by simp;omega),aNP (by rw[aDj];omega)]
def LO:Nat->List Nat->Nat
 |P,[]=>P
 |_,x::l=>LO x l
theorem aDl (a:Nat): ∀(l:List Nat),FM (a::l)=LO a l
 |[]=>rfl
 |x::l=>by
  have h:=aDl x l;unfold FM at h⊢;rw[aMO,aMO,Nat.add_sub_cancel,List.getD_cons_succ];rw[aMO,Nat.add_sub_cancel] at h;exact h
theorem aDm {s:List UInt8}(hsm:s.length<=4000000000) {bad:Int}{rr:Int×Int×Int×List UInt8×List (List UInt8)×List pL×List Int}: ∀(n P:Nat) (es:List tY) (ends:List Int),s.length-P<=n->P<=s.length->E3 es->ends.length=es.length+1->
  ∃ro,pR (tI s rr) ((P:Int),bad,0,es,ends)=some ro/\(ro.2.2.1=0->∃(ls:List Nat) (ys:List tY),ro.2.2.2.1=es++ys/\ro.2.2.2.2=ends++ls.map (fun n:Nat=>(n:Int))/\wY (H4 s P ls) ys/\LO P ls<=s.length/\(G (s.drop (LO P ls))).1=(s.drop (LO P ls)).length)
 |n,P,es,ends,hn,hP,hes,hle=>by
  have hg:=LJ (GU hsm) hP;by_cases hlt:P+(G (s.drop P)).1<s.length
  ·obtain⟨r,h1,h2⟩:=aC4 (bad:=bad) (tag:=rr.2.2.2.1) (cms:=rr.2.2.2.2.1) (fds:=rr.2.2.2.2.2.1) hsm hP (show ends.length<=5000 by have:=hes.len;omega) hes;have hst:tI s rr ((P:Int),bad,0,es,ends)=some (.inl r):=by
    unfold tI;dsimp only;rw[hg,aMI uH,aMI (show (decide ((0:Int)=0)&&decide (val (some (((P+(G (s.drop P)).1:Nat):Int)))<(s.length:Int)))=true from by
     show (decide ((0:Int)=0)&&decide (((P+(G (s.drop P)).1:Nat):Int)<(s.length:Int)))=true;simp;omega),h1,aMH]
   rw[D4 hst];rcases h2 with h2|⟨P',y,p1,p2,rfl,h3⟩
   ·obtain⟨p,b,e,q1,q2⟩:=r;have h2':e≠0:=h2;have hs2:tI s rr (p,b,e,q1,q2)=some (.inr (p,b,e,q1,q2)):=by
     unfold tI;dsimp only;rw[aMI (by intro hh;simp [h2'] at hh),aMK (by simp [h2'])]
    rw[tJ hs2];exact⟨_,rfl,fun h=>absurd h h2'⟩
   ·have hpp:P+(P'-P)=P':=by omega
    have hR:J1 ((s.drop P).take (P'-P)) y:=aKl (bad2:=bad) (ends2:=ends++[(P':Int)]) hsm (by omega) (show ends.length<=5000 by have:=hes.len;omega) hes (by rw[hpp];exact h1)
    match n,hn with
    |0,hn=>exact absurd p2 (by omega)
    |n+1,hn=>
     obtain⟨ro,g1,g2⟩:=aDm hsm (bad:=bad) (rr:=rr) n P' (es++[y]) (ends++[(P':Int)]) (by omega) p2 h3 (by simp only[aMN,aNI];omega);refine⟨ro,g1,fun he=> ?_⟩;obtain⟨ls,ys,k1,k2,k3,k4⟩:=g2 he;exact⟨P'::ls,y::ys,by rw[k1,aMU,aN6],by rw[k2,aMU,aN6,aNT],.cons hR k3,k4⟩
  ·have hst:tI s rr ((P:Int),bad,0,es,ends)=some (.inr ((P:Int),bad,0,es,ends)):=by
    unfold tI;dsimp only;rw[hg,aMI uH,aMK];show¬(decide ((0:Int)=0)&&decide (((P+(G (s.drop P)).1:Nat):Int)<(s.length:Int)))=true;simp;omega
   rw[tJ hst];exact⟨_,rfl,fun _=>⟨[],[],by rw[List.append_nil],by rw[List.map_nil,List.append_nil],.nil,hP,by
    show (G (s.drop P)).1=(s.drop P).length;have:=IT _ (s.drop P) (aM2 _);rw[aMP] at this⊢;omega⟩⟩
def yI (g:List UInt8):Prop:= ∀r,G (g++r)=yD g.length (G r)
theorem aKn:yI []:=fun r=>by
 show G r=(0+(G r).1,(G r).2);rw[aNd]
theorem aKo {a b:List UInt8}(ha:yI a) (hb:yI b):yI (a++b):=fun r=>by
 rw[aMU,ha,hb,aMN];show (a.length+(b.length+(G r).1),(G r).2)=(a.length+b.length+(G r).1,(G r).2);rw[aNn]
theorem TZ {b:UInt8}(h:yC b=true):yI [b]:=fun r=>zI h
theorem aKp {g r:List UInt8}(hg:yI g):(rY (g++r)).1=(rY r).1/\(rY (g++r)).2.1=(rY r).2.1/\(rY (g++r)).2.2.2=g.length+(rY r).2.2.2:=by
 unfold rY;rw[hg r];have hd:(g++r).drop (g.length+(G r).1)=r.drop (G r).1:=by rw[<-aNo,aOT]
 by_cases h:(G r).2=true
 ·rw[aMI (show (yD g.length (G r)).2=true from h),aMI h];show (sL ((g++r).drop (g.length+(G r).1))).1=_/\(sL ((g++r).drop (g.length+(G r).1))).2.1=_/\g.length+(G r).1+(sL ((g++r).drop (g.length+(G r).1))).2.2=_;rw[hd];exact⟨rfl,rfl,aNn _ _ _⟩
 ·rw[aMK (show¬(yD g.length (G r)).2=true from h),aMK h];exact⟨rfl,rfl,rfl⟩
theorem aDn {s g r:List UInt8}{P:Nat}(h:At s P (g++r)) (hg:yI g):kS s P=kS s (P+g.length)/\xS s P=xS s (P+g.length)/\nS s P=nS s (P+g.length):=by
 have e:=(OO h).eq;obtain⟨h1,h2,h3⟩:=aKp (r:=r) hg;unfold kS xS nS;rw[h.eq,e];exact⟨h1,h2,by omega⟩
theorem aKq {g t:List UInt8}{y:tY}(hg:yI g) (h:J1 t y):J1 (g++t) y:=by
 intro s z P bad tag cms fds es ends hsm hA hes hnew he;rw[aMU] at hA;have hQ:=OO hA;have h1:=h s z (P+g.length) bad tag cms fds es ends hsm hQ hes hnew he;obtain⟨k,x,n⟩:=aDn hA hg;have hw:=aDh hsm hQ.le h1 rfl;have e:P+(g++t).length=P+g.length+t.length:=by rw[aMN];omega
 rw[e,<-h1];unfold zB;rw[yG hsm hA.le,aMH,yG hsm hQ.le,aMH,k,x];by_cases h0:(decide (kR (kS s (P+g.length))=2)&&(decide (([101,110,116,114,121]:List UInt8)=[])||decide (xS s (P+g.length)=[101,110,116,114,121])))=true
 ·rw[u6 h0,u6 h0];dsimp only;rw[n]
 ·exfalso;unfold zB at h1;rw[yG hsm hQ.le,aMH,vA h0] at h1;dsimp only at h1;rw[FI hsm hQ.le (show (3:Int)≠0 by decide),aMH] at h1;dsimp only at h1;rw[aMI (show (!decide ((3:Int)=0))=true from by decide)] at h1;have:=aML h1;simp only[aM9] at this;exact absurd this.2.2.1 (by decide)
theorem aDo {t:List UInt8}{e:Nat}(hc:sK t=some e) (hl:e+2=t.length):yI (47::42::t):=fun r=>by
 have hc':sK (((47:UInt8)::(42::t++r)).drop 2)=some e:=TW r hc;have h:=BI (b:=47) (t:=42::t++r) (by decide) (by simp [rL]) (by simp [rL]) hc';rw[List.cons_append,h];have hd:((47:UInt8)::(42::t++r)).drop (e+4)=r:=by
  have e1:(47:UInt8)::(42::t++r)=(47::42::t)++r:=rfl;rw[e1,List.drop_left' (by simp only[aMO];omega)]
 rw[hd];simp only[aMO];rw[show e+4=t.length+1+1 by omega]
theorem aDp {t:List UInt8}(ht:(t.findIdx? fun b=>decide (b=10))=none):yI (47::47::(t++[10])):=fun r=>by
 have hln:sA (47::((47::(t++[10]))++r))=t.length+2:=by
  unfold sA;rw[aND,aMK (by decide),List.cons_append,aND,aMK (by decide),aMU,List.findIdx?_append,ht];simp [aND]
 have h:=BH (b:=47) (t:=(47::(t++[10]))++r) (by decide) (by simp [rL]);rw[List.cons_append,h,hln];have hd:((47:UInt8)::((47::(t++[10]))++r)).drop (t.length+2)=10::r:=by
  have e1:(47:UInt8)::((47::(t++[10]))++r)=(47::47::t)++(10::r):=by simp
  rw[e1,List.drop_left' (by simp)]
 rw[hd,zI (by decide)];show (t.length+2+(1+(G r).1),(G r).2)=_;simp only[yD,aMO,aMN,aNw,aM9,and_true];omega
abbrev C0:C4:=(([]:List UInt8),(([]:List (List UInt8)),(([]:List pL),(([]:List qT),()))))
def E8 (h tag:List UInt8) (cms:List (List UInt8)) (fds:List rC):Prop:= ∀(s z:List UInt8) (P:Nat),s.length<=4000000000->At s P (h++z)->
 kS s P=2/\xS s P=[99,97,116,97,108,111,103]/\kS s (nS s P)=1/\xS s (nS s P)=tag/\tW tag=true/\
  ∃(sr tg:List UInt8) (fg:List (List UInt8)) (st:Int),uE (s,((nS s (nS s P):Int),((0:Int),((0:Int),(C0,(([]:List Int),())))))) (i0 []) true=some (((P+h.length:Nat):Int),0,0,[((P+h.length:Nat):Int)],sr,tg,cms,fg,st,fds)
theorem aKr {g h tag:List UInt8}{cms:List (List UInt8)}{fds:List rC}(hg:yI g) (hh:E8 h tag cms fds):E8 (g++h) tag cms fds:=by
 intro s z P hsm hA;rw[aMU] at hA;obtain⟨k,x,n⟩:=aDn hA hg;have:=hh s z (P+g.length) hsm (OO hA);rw[k,x,n,aMN,show P+(g.length+h.length)=P+g.length+h.length by omega];exact this
theorem aKs {h tag:List UInt8}{cms:List (List UInt8)}{fds:List rC}(hh:E8 h tag cms fds) {s z:List UInt8}(hsm:s.length<=4000000000) (hA:At s 0 (h++z)):
  BZ (s,((0:Int),((0:Int),((0:Int),(C0,(([]:List Int),()))))))=some ((h.length:Int),0,0,tag,cms,fds,[(h.length:Int)]):=by
 obtain⟨k1,x1,k2,x2,ht,sr,tg,fg,st,hb⟩:=hh s z 0 hsm hA;have hQ:=rU hA.le;rw[aNd] at hb;have h1:uN (s,(((0:Nat):Int),((0:Int),((0:Int),(C0,(([]:List Int),())))))) 2 [99,97,116,97,108,111,103]=_:=yG hsm hA.le;have h1':uN (s,((0:Int),((0:Int),((0:Int),(C0,(([]:List Int),())))))) 2 [99,97,116,97,108,111,103]=_:=h1;unfold BZ;rw[h1',aMH,u6 (by rw[(yF (by decide) (by decide)).2 k1,x1];decide)];dsimp only;rw[A2 hsm hQ.2 (by decide) (by decide),aMH,u6 (by simpa using k2)];dsimp only;rw[LE _ (GV hsm hQ.2),x2,ht,aMI uH,aMK (show¬(decide ((0:Int)=0)&& !(val (some true)))=true from by decide)];unfold rE;rw[aMH];dsimp only;have hb':uE (s,((nS s (nS s 0):Int),((0:Int),((0:Int),(([],([],([],([],())))),(([]:List Int),())))))) ([],([],([],([],([],(0,([],()))))))) true=_:=hb;rw[hb',aMH]
theorem aKt {s:List UInt8}(hsm:s.length<=4000000000) {r:H7}(h:BZ (s,((0:Int),((0:Int),((0:Int),(C0,(([]:List Int),()))))))=some r) (he:r.2.2.1=0):
  ∃(P':Nat) (tag:List UInt8) (cm:List (List UInt8)) (fd:List rC),P'<=s.length/\r=((P':Int),0,0,tag,cm,fd,[(P':Int)])/\E8 (s.take P') tag cm fd:=by
 have hP:0<=s.length:=aNt _;have hQ:=rU hP;have hR:=rU hQ.2;have e3:(3:Int)≠0:=by decide
 have h1:uN (s,(((0:Nat):Int),((0:Int),((0:Int),(C0,(([]:List Int),())))))) 2 [99,97,116,97,108,111,103]=_:=yG hsm hP;have h1':uN (s,((0:Int),((0:Int),((0:Int),(C0,(([]:List Int),())))))) 2 [99,97,116,97,108,111,103]=_:=h1;have nope: ∀{x:H7},some x=some r->x.2.2.1≠0->False:=fun hx hn=>by
  rw[aML hx] at hn;exact hn he
 unfold BZ at h;rw[h1',aMH] at h;by_cases h0:(decide (kR (kS s 0)=2)&&(decide (([99,97,116,97,108,111,103]:List UInt8)=[])||decide (xS s 0=[99,97,116,97,108,111,103])))=true
 ·have h0':=h0;simp only[aMS,aNz,aMQ] at h0';have hk:kS s 0=2:=(yF (by decide) (by decide)).1 h0'.1;have hx:xS s 0=[99,97,116,97,108,111,103]:=h0'.2.resolve_left (by simp);rw[u6 h0] at h;dsimp only at h;rw[A2 hsm hQ.2 (by decide) (by decide),aMH] at h;by_cases hk1:kS s (nS s 0)=1
  ·rw[u6 (by simpa using hk1)] at h;dsimp only at h;rw[LE _ (GV hsm hQ.2),aMI uH] at h;by_cases ht:tW (xS s (nS s 0))=true
   ·rw[aMK (show¬(decide ((0:Int)=0)&& !val (some (tW (xS s (nS s 0)))))=true from by rw[ht];decide)] at h;unfold rE at h;rw[aMH] at h;dsimp only at h;obtain⟨q,g1,g2⟩:=TT (c:=C0) (bad:=0) (ends:=[]) (hd:=true) (x:=[]) hsm hR.2 (by decide);have g1':uE (s,((nS s (nS s 0):Int),((0:Int),((0:Int),(([],([],([],([],())))),(([]:List Int),())))))) ([],([],([],([],([],(0,([],()))))))) true=some q:=g1;rw[g1',aMH] at h;rcases g2 with g2|⟨P',sr,tg,cm,fg,st,fd,q1,q2,rfl,q3⟩
    ·exact(nope h g2).elim
    ·refine⟨P',xS s (nS s 0),cm,fd,q2,(aML h).symm,?_⟩;intro s' z P hsm' hA;have hl:(s.take P').length=P':=by rw[aM5];omega
     have hAl:=a47 hA;rw[hl] at hAl⊢;have tw:J0 s s' 0 P P':=⟨by omega,hAl,by rw[hA.eq,aNY,List.take_left' hl]⟩;obtain⟨k1,x1,m1,a1,b1,_,c2⟩:=tw.tok (j:=0) (aNt _) (.inr (.inr ⟨by simpa using hk,by
      have:=uW (s:=s) (P:=nS s 0) (by omega) (by omega);simp only[aNN];omega⟩))
     simp only[aNN,aNd] at k1 x1 a1 b1;obtain⟨k2,x2,m2,a2,b2,_,c4⟩:=tw.tok c2 (.inl ⟨by rw[aNd,<-a1];exact hk1,by rw[aNd,<-a1];omega⟩);rw[aNd,aNd,<-a1] at a2;rw[<-b1,aNd,<-a1] at k2 x2;rw[<-b1] at b2;have hB:uE (s,(((0+m2:Nat):Int),((0:Int),((0:Int),(C0,(([]:List Int),())))))) (i0 []) true=some (((0+P':Nat):Int),0,0,[(P':Int)],sr,tg,cm,fg,st,fd):=by
      rw[aNd,aNd,<-a2];exact g1
     have hB':=aDg (bad':=0) (c':=C0) (ends':=[]) hsm hsm' tw c4 (by decide) (by decide) hB;rw[<-b2] at hB';exact⟨k1.trans hk,x1.trans hx,k2.trans hk1,x2,ht,sr,tg,fg,st,hB'⟩
   ·exfalso;rw[aMI (show (decide ((0:Int)=0)&& !val (some (tW (xS s (nS s 0)))))=true from by rw[show tW (xS s (nS s 0))=false from by simpa using ht];decide)] at h;unfold qW at h;rw[uV] at h;unfold rE at h;rw[aMH] at h;dsimp only at h;obtain⟨ro,hro,g1,g2⟩:=FL (P:=nS s (nS s 0)) (c2:=C0) (bad:=(fS s (nS s 0):Int)) (e:=3) (ends2:=[]) (hd:=true) (i:=i0 []) hsm hR.2 (by decide);have hro':uE (s,((nS s (nS s 0):Int),((fS s (nS s 0):Int),((3:Int),(([],([],([],([],())))),(([]:List Int),())))))) ([],([],([],([],([],(0,([],()))))))) true=some ro:=hro;rw[hro',aMH] at h;exact nope h (by show ro.2.2.1≠0;rw[g2];decide)
  ·exfalso;rw[vA (by simpa using hk1)] at h;dsimp only at h;rw[aMI (by intro hh;simp at hh),aMK (show¬(decide ((3:Int)=0)&& !val (F4 (xS s (nS s 0))))=true from by simp)] at h;unfold rE at h;rw[aMH] at h;dsimp only at h;obtain⟨ro,hro,g1,g2⟩:=FL (P:=nS s 0) (c2:=C0) (bad:=(fS s (nS s 0):Int)) (e:=3) (ends2:=[]) (hd:=true) (i:=i0 []) hsm hQ.2 (by decide);have hro':uE (s,((nS s 0:Int),((fS s (nS s 0):Int),((3:Int),(([],([],([],([],())))),(([]:List Int),())))))) ([],([],([],([],([],(0,([],()))))))) true=some ro:=hro;rw[hro',aMH] at h;exact nope h (by show ro.2.2.1≠0;rw[g2];decide)
 ·exfalso;rw[vA h0] at h;dsimp only at h;have h2:uN (s,(((0:Nat):Int),((fS s 0:Int),((3:Int),(C0,(([]:List Int),())))))) 1 []=_:=FI hsm hP e3;rw[h2,aMH] at h;dsimp only at h;rw[aMI (by intro hh;simp at hh),aMK (show¬(decide ((3:Int)=0)&& !val (F4 (xS s 0)))=true from by simp)] at h;unfold rE at h;rw[aMH] at h;dsimp only at h;obtain⟨ro,hro,g1,g2⟩:=FL (P:=0) (c2:=C0) (bad:=(fS s 0:Int)) (e:=3) (ends2:=[]) (hd:=true) (i:=i0 []) hsm hP (by decide);have hro':uE (s,(((0:Nat):Int),((fS s 0:Int),((3:Int),(([],([],([],([],())))),(([]:List Int),())))))) ([],([],([],([],([],(0,([],()))))))) true=some ro:=hro;rw[hro',aMH] at h;exact nope h (by show ro.2.2.1≠0;rw[g2];decide)
theorem aKu {h tl tag:List UInt8}{cms:List (List UInt8)}{fds:List rC}{ts:List (List UInt8)}{ys:List tY}(hH:E8 h tag cms fds) (hR:wY ts ys) (ht:(G tl).1=tl.length) (h6:ys.Pairwise (fun a b=>a.1≠b.1)) (h4:ys.length<=1000) (hsm:(h++(ts.flatten++tl)).length<=4000000000):
  ∃ends,C1 (h++(ts.flatten++tl))=some (tag,cms,fds,ys,ends,0,0):=by
 obtain⟨s,hs⟩: ∃s,h++(ts.flatten++tl)=s:=⟨_,rfl⟩;rw[hs] at hsm⊢;have hA:At s 0 (h++(ts.flatten++tl)):=⟨aNt _,by rw[aNY];exact hs.symm⟩;have e1:=aKs hH hsm hA;have A1:=OO hA;rw[aNd] at A1;obtain⟨P2,e2⟩:=aDi ht hsm (rr:=((h.length:Int),0,0,tag,cms,fds,[(h.length:Int)])) ts ys [] h.length [(h.length:Int)] hR A1 (by simpa using h6) (by simpa using h4) (by simp);refine⟨[(h.length:Int)]++(ON h.length ts).map fun n:Nat=>(n:Int),?_⟩;unfold C1;rw[e1,aMH];dsimp only;rw[e2];unfold rE;rw[aMH];dsimp only;rw[aMK (show¬(!decide ((0:Int)=0))=true from by decide),List.nil_append]
theorem aKv {s:List UInt8}(hsm:s.length<=4000000000) {v:List UInt8×List (List UInt8)×List pL×List qT×List Int×Int×Int}(h:C1 s=some v) (he:v.2.2.2.2.2.2=0): ∃(a:Nat) (ls:List Nat),v.2.2.2.2.1=(a::ls).map (fun n:Nat=>(n:Int))/\E8 (pc s (a::ls) 0) v.1 v.2.1 v.2.2.1/\wY ((BL s (a::ls)).drop 1) v.2.2.2.1/\(G (pE s (FM (a::ls):Nat) (s.length:Int))).1=(pE s (FM (a::ls):Nat) (s.length:Int)).length:=by
 obtain⟨r,h1,_⟩:=aC6 hsm;unfold C1 at h;rw[h1,aMH] at h;by_cases h2:r.2.2.1=0
 ·obtain⟨P',tag,cm,fd,p1,rfl,hH⟩:=aKt hsm h1 h2;dsimp only at h;obtain⟨ro,g1,g2⟩:=aDm (bad:=0) (rr:=((P':Int),0,0,tag,cm,fd,[(P':Int)])) hsm s.length P' [] [(P':Int)] (by omega) p1 ⟨by decide,fun x hx=>(by cases hx),List.Pairwise.nil⟩ (by simp);rw[g1] at h;unfold rE at h;rw[aMH] at h;obtain⟨p,b,e,q1,q2⟩:=ro;dsimp only at h;by_cases hz:e=0
  ·rw[aMK (by simp [hz])] at h;obtain⟨ls,ys,k1,k2,k3,k4,k5⟩:=g2 hz;have hv:=aML h;dsimp only at k1 k2;refine⟨P',ls,?_,?_,?_,?_⟩
   ·rw[<-hv];show q2=_;rw[k2];rfl
   ·rw[<-hv];have:pc s (P'::ls) 0=s.take P':=by
     show pE s ((0:Nat):Int) ((P':Nat):Int)=_;unfold pE;rw[aNp,aNp,aNY,Nat.sub_zero]
    rw[this];exact hH
   ·rw[<-hv,aKm];show wY _ q1;rw[k1];exact k3
   ·have:pE s (FM (P'::ls):Nat) (s.length:Int)=s.drop (LO P' ls):=by
     rw[aDl];unfold pE;rw[aNp,aNp,List.take_of_length_le (by rw[aMP];exact aM2 _)]
    rw[this];exact k5
  ·rw[aMI (by simp [hz])] at h;rw[<-aML h] at he;exact absurd he hz
 ·obtain⟨p,b,e,q1,q2,q3,q4⟩:=r;have h2':e≠0:=h2;have hs2:tI s (p,b,e,q1,q2,q3,q4) (p,b,e,[],q4)=some (.inr (p,b,e,[],q4)):=by
   unfold tI;dsimp only;rw[aMI (by intro hh;simp [h2'] at hh),aMK (by simp [h2'])]
  dsimp only at h;rw[tJ hs2] at h;unfold rE at h;rw[aMH] at h;dsimp only at h;rw[aMI (by simp [h2'])] at h;rw[<-aML h] at he;exact absurd he h2'
theorem aKw {g:List UInt8}(hg:yI g): ∀(n:Nat) (t:List UInt8),t.length<=n->(G t).1=t.length->(G (t++(10::g))).1=(t++(10::g)).length:=by
 have base:(G (10::g)).1=(10::g).length:=by
  have h:=hg [];rw[List.append_nil] at h;rw[zI (by decide),h];show 1+(g.length+(G []).1)=_;rw[aIo];simp only[aMO];omega
 intro n
 induction n with
 |zero=>
  intro t h _;have:t=[]:=aNb (by omega);rw[this];exact base
 |succ n ih=>
  intro t h ht;cases t with
  |nil=>exact base
  |cons b t=>
   simp only[aMO] at h ht;by_cases h0:yC b=true
   ·rw[zI h0] at ht;have ht':1+(G t).1=t.length+1:=ht;rw[List.cons_append,zI h0];show 1+(G (t++(10::g))).1=_;rw[ih t (by omega) (by omega),aMO];omega
   ·by_cases h1:rL 47 47 (b::t)=true
    ·rw[BH h0 h1] at ht;have hl:=GS h1;have hln:sA ((b::t)++(10::g))=sA (b::t):=by
      unfold sA;rw[List.findIdx?_append];cases hf:(b::t).findIdx? fun b=>decide (b=10) with
      |some k=>simp
      |none=>simp [aND]
     have hb:rL 47 47 ((b::t)++(10::g))=true:=by
      cases t with
      |nil=>simp [rL] at h1
      |cons c t=>exact h1
     have ht':sA (b::t)+(G ((b::t).drop (sA (b::t)))).1=t.length+1:=ht;have hd:((b::t)++(10::g)).drop (sA (b::t))=(b::t).drop (sA (b::t))++(10::g):=List.drop_append_of_le_length hl.2;rw[List.cons_append] at hln hb hd⊢;rw[BH h0 hb,hln,hd];show sA (b::t)+(G ((b::t).drop (sA (b::t))++(10::g))).1=_;simp only[aMO] at hl;rw[ih _ (by rw[aMP];simp only[aMO];omega) (by rw[aMP];simp only[aMO];omega)];simp only[aMN,aMP,aMO];omega
    ·by_cases h2:rL 47 42 (b::t)=true
     ·cases hc:sK ((b::t).drop 2) with
      |none=>
       rw[IS h0 h1 h2 hc] at ht;exact absurd ht (by simp)
      |some e=>
       rw[BI h0 h1 h2 hc] at ht;have he:=LI hc;have hb: ¬rL 47 47 ((b::t)++(10::g))=true/\rL 47 42 ((b::t)++(10::g))=true:=by
        cases t with
        |nil=>simp [rL] at h2
        |cons c t=>exact⟨h1,h2⟩
       have hc':sK (((b::t)++(10::g)).drop 2)=some e:=by
        have hlen:2<=(b::t).length:=by
         rw[aMP] at he;simp only[aMO] at he⊢;omega
        rw[List.drop_append_of_le_length hlen];exact TW _ hc
       rw[aMP] at he;simp only[aMO] at he;have ht':e+4+(G ((b::t).drop (e+4))).1=t.length+1:=ht;have hd:((b::t)++(10::g)).drop (e+4)=(b::t).drop (e+4)++(10::g):=List.drop_append_of_le_length (by simp only[aMO];omega);rw[List.cons_append] at hb hc' hd⊢;rw[BI h0 hb.1 hb.2 hc',hd];show e+4+(G ((b::t).drop (e+4)++(10::g))).1=_;rw[ih _ (by rw[aMP];simp only[aMO];omega) (by rw[aMP];simp only[aMO];omega)];simp only[aMN,aMP,aMO];omega
     ·rw[FH h0 h1 h2] at ht;exact absurd ht (by simp)
theorem aKx {g t:List UInt8}(hg:yI g) (ht:(G t).1=t.length):(G (g++t)).1=(g++t).length:=by
 rw[hg t,aMN];show g.length+(G t).1=_;rw[ht]
structure aKy (s:List UInt8) (c:C4) (h:List UInt8) (ts:List (List UInt8)) (t:List UInt8):Prop where
 split:BE s=some (h,ts,t,0)
 parse:wW s=some (c.1,c.2.1,c.2.2.1,c.2.2.2.1,0,0)
 body:vO h ts t=s
 head:E8 h c.1 c.2.1 c.2.2.1
 items:wY ts c.2.2.2.1
 tail:(G t).1=t.length
 ok:C8 c=true
theorem wY.len: ∀{ts:List (List UInt8)}{ys:List tY},wY ts ys->ts.length=ys.length
 |_,_,.nil=>rfl
 |_,_,.cons _ hs=>by rw[aMO,aMO,hs.len]
theorem wY.set {x:List UInt8}{y:tY}(hx:J1 x y): ∀{ts:List (List UInt8)}{ys:List tY}(k:Nat),wY ts ys->wY (ts.set k x) (ys.set k y)
 |_,_,_,.nil=> .nil
 |_,_,0,.cons _ hs=> .cons hx hs
 |_,_,k+1,.cons h hs=> .cons h (hs.set hx k)
theorem wY.get: ∀{ts:List (List UInt8)}{ys:List tY}{k:Nat}{x:List UInt8},wY ts ys->ts[k]? =some x->∃y,ys[k]? =some y/\J1 x y
 |_,_,_,_,.nil,h=>by simp at h
 |_,_,0,_,.cons h1 hs,h=>by
  simp only[aNe,aMJ] at h;subst h;exact⟨_,rfl,h1⟩
 |_,_,k+1,_,.cons h1 hs,h=>by
  simp only[aNk] at h⊢;exact hs.get h
theorem aDq {h t:List UInt8}{ts:List (List UInt8)}{c:C4}(hH:E8 h c.1 c.2.1 c.2.2.1) (hR:wY ts c.2.2.2.1) (ht:(G t).1=t.length) (h6:c.2.2.2.1.Pairwise (fun a b=>a.1≠b.1)) (h4:c.2.2.2.1.length<=1000) (hsm:(vO h ts t).length<=4000000000):
  wW (vO h ts t)=some (c.1,c.2.1,c.2.2.1,c.2.2.2.1,0,0):=by
 obtain⟨ends,e⟩:=aKu hH hR ht h6 h4 hsm;obtain⟨v,h1,h2,_⟩:=a41 hsm;unfold L7 at h2;have e':C1 (vO h ts t)=_:=e;rw[e',aMH] at h2;rw[h1,<-h2]
theorem aKz {s:List UInt8}(hsm:s.length<=4000):(∃c h ts t,aKy s c h ts t)\/∃(e:Int) (w:List UInt8×List (List UInt8)×List pL×List qT×Int×Int),e≠0/\BE s=some ([],[],[],e)/\wW s=some w/\w.2.2.2.2.2=e:=by
 have hsm':s.length<=4000000000:=by omega
 obtain⟨r,v,h1,h2,h3⟩:=aJI hsm';obtain⟨w,q1,q2,q3⟩:=aKa hsm';obtain⟨u,u1,u2,_⟩:=a41 hsm';have hw:w=(v.1,v.2.1,v.2.2.1,v.2.2.2.1,v.2.2.2.2.2.1,v.2.2.2.2.2.2):=by
  rw[q1] at u1;cases u1;unfold L7 at u2;rw[h2,aMH] at u2;exact(aML u2).symm
 rcases h3 with⟨e1,e2,e3,⟨l,g1,g2,g3,g4⟩,e5⟩ |⟨e1,e2⟩
 ·left;rw[g1,aN7] at e5;have hS:=aJL hsm' g2 g3 g4 (by omega) h1 e1 g1;obtain⟨a,ls,m1,m2,m3,m4⟩:=aKv hsm' h2 e2;have hl:l=a::ls:=by
   have:l.map (fun n:Nat=>(n:Int))=(a::ls).map (fun n:Nat=>(n:Int)):=by rw[<-g1,<-e3,m1]
   have inj:Function.Injective (fun n:Nat=>(n:Int)):=fun a b hab=>by
    have hab':(a:Int)=(b:Int):=hab;omega
   exact(List.map_inj_right (f:=fun n:Nat=>(n:Int)) (fun a b hab=>inj hab)).1 this
  subst hl;obtain⟨v',g1',_,_,g4'⟩:=aC7 hsm';rw[h2] at g1';cases g1';refine⟨(v.1,(v.2.1,(v.2.2.1,(v.2.2.2.1,())))),_,_,_,⟨hS,?_,aKb g2 g3 g4,m2,m3,m4,?_⟩⟩
  ·rw[q1,hw,e2,(g4' e2).1]
  ·have:=q2 (by rw[hw];exact e2);rw[hw] at this;exact this
 ·right;refine⟨r.2.2.2.2.2.2.1,w,e1,?_,q1,by rw[hw];exact e2⟩;unfold BE;rw[h1,aMH,aMI (by simp [e1])]
theorem aKA {c:C4}(h:C8 c=true):E3 c.2.2.2.1:=by
 obtain⟨_,_,_,h4,h5,h6⟩:=aCZ h;exact⟨h4,h5,h6⟩
theorem aDr {a:Int}(h0:0<=a) (h1:a<65536) {n:Nat}(hn:0<n): ∃k:Nat,k<n/\Int.tmod (IntKind.wrap .i64 a) (n:Int)=(k:Int):=by
 obtain⟨m,rfl⟩:=Int.eq_ofNat_of_zero_le h0;refine⟨m%n,Nat.mod_lt _ hn,?_⟩;have hw:IntKind.wrap .i64 (m:Int)=(m:Int):=by
  have e:(m:Int) %2^64=m:=Int.emod_eq_of_lt (by omega) (by omega);have e2:IntKind.wrap .i64 (m:Int)=if (true&&decide ((m:Int) %2^64>=2^63))=true then(m:Int) %2^64-2^64 else(m:Int) %2^64:=rfl;rw[e2,e,aMK (by simp;omega)]
 rw[hw];exact(Int.ofNat_tmod m n).symm
theorem aKB {ts:List (List UInt8)}{x:List UInt8}: ∀(k:Nat),(ts.set k x).flatten.length<=ts.flatten.length+x.length:=by
 induction ts with
 |nil=>intro k;simp
 |cons t ts ih=>
  intro k;cases k with
  |zero=>simp only[List.set_cons_zero,aN3,aMN];omega
  |succ k=>
   have:=ih k;simp only[List.set_cons_succ,aN3,aMN];omega
def H5:List (List UInt8):=[([32]:List UInt8),([10]:List UInt8),([9]:List UInt8),([13]:List UInt8),([47,42,32,97,32,123,32,34,32,42,47]:List UInt8),([47,47,32,98,32,125,32,34,10]:List UInt8),([47,42,42,42,47]:List UInt8),([47,47,10]:List UInt8)]
theorem aKC: ∀u∈H5,yI u/\u.length<=12:=by
 intro u hu;unfold H5 at hu;simp only[aM1,aOo,or_false] at hu;rcases hu with rfl|rfl|rfl|rfl|rfl|rfl|rfl|rfl
 ·exact⟨TZ (by decide),by decide⟩
 ·exact⟨TZ (by decide),by decide⟩
 ·exact⟨TZ (by decide),by decide⟩
 ·exact⟨TZ (by decide),by decide⟩
 ·exact⟨aDo (t:=[32,97,32,123,32,34,32,42,47]) (e:=7) (by decide) (by decide),by decide⟩
 ·exact⟨aDp (t:=[32,98,32,125,32,34]) (by decide),by decide⟩
 ·exact⟨aDo (t:=[42,42,47]) (e:=1) (by decide) (by decide),by decide⟩
 ·exact⟨aDp (t:=[]) (by decide),by decide⟩
theorem aDs {gs:List Int}(hg: ∀x∈gs,0<=x/\x<65536) (hl:gs.length<=10): ∀(n i:Nat) (g:List UInt8),i+n=gs.length->yI g->g.length<=12*i->∃r,pR (IN gs) (g,(i:Int))=some r/\yI r/\r.length<=120
 |0,i,g,hn,h1,h2=>by
  refine⟨g,xA ?_,h1,by omega⟩;unfold IN;dsimp only;rw[aMK (by simp;omega)]
 |n+1,i,g,hn,h1,h2=>by
  have hi:i<gs.length:=by omega
  obtain⟨a0,a1⟩:=hg _ (aNR hi);obtain⟨k,hk,hke⟩:=aDr (n:=H5.length) a0 a1 (by decide);obtain⟨b1,b2⟩:=aKC _ (aNR hk);have hst:IN gs (g,(i:Int))=some (.inl (g++H5[k],((i+1:Nat):Int))):=by
   unfold IN;dsimp only;have hnth:qG (.int .u8) gs (i:Int)=gs[i]:=y3 (t:= .int .u8) hi;have e: ∀(z:Int),(Int.tmod (IntKind.wrap .i64 z) (([([32]:List UInt8),([10]:List UInt8),([9]:List UInt8),([13]:List UInt8),([47,42,32,97,32,123,32,34,32,42,47]:List UInt8),([47,47,32,98,32,125,32,34,10]:List UInt8),([47,42,42,42,47]:List UInt8),([47,47,10]:List UInt8)]:List (List UInt8)).length:Int))=Int.tmod (IntKind.wrap .i64 z) (H5.length:Int):=fun _=>rfl;rw[aMI (uF hi),aMI (rX hi),hnth,e,hke];have hn2:qG .str ([([32]:List UInt8),([10]:List UInt8),([9]:List UInt8),([13]:List UInt8),([47,42,32,97,32,123,32,34,32,42,47]:List UInt8),([47,47,32,98,32,125,32,34,10]:List UInt8),([47,42,42,42,47]:List UInt8),([47,47,10]:List UInt8)]:List (List UInt8)) (k:Int)=H5[k]:=y3 (t:= .str) (l:=H5) hk;rw[hn2,aMI (by decide),aMI ⟨Int.natCast_nonneg _,by
    show (k:Int)<(H5.length:Int);omega⟩,aMI (by rw[aMN];omega),aMI (sR (by omega))]
   rfl
  rw[JZ hst];exact aDs hg hl n (i+1) _ (by omega) (aKo h1 b1) (by rw[aMN];omega)
theorem aDt (k:Nat): ∀(l:List (Int×List UInt8)) (off:Nat),(∀j x,l[j]? =some x->x.1=((off+j:Nat):Int))->∀y,off<=k->l[k-off]? =some y->AJ (SB (k:Int)) l ()=some (.inr (y.2,true))
 |[],off,_,y,_,h=>by simp at h
 |it::r,off,hx,y,hk,h=>by
  have h0:=hx 0 it rfl;rw[aNN] at h0;unfold AJ SB;by_cases he:off=k
  ·subst he;rw[aOG] at h;cases h;rw[aMI (by rw[h0];simp)];rfl
  ·rw[aMK (by rw[h0];simp;omega),aMH];have hd:k-off=(k- (off+1))+1:=by omega
   rw[hd,aNk] at h;exact aDt k r (off+1) (fun j x hj=>by
    have:=hx (j+1) x (by rw[aNk];exact hj);rw[this];congr 1;omega) y (by omega) h
theorem aKD (d:yX): ∀(j:Nat) (x:Int×List UInt8),(xY d)[j]? =some x->x.1=((0+j:Nat):Int):=by
 intro j x h;cases j with
 |zero=>
  rw[XR] at h;cases h;rfl
 |succ j=>
  by_cases hj:j<d.2.1.length
  ·rw[XS d hj] at h;cases h;show (j:Int)+1=_;omega
  ·have hlen:=(aMX.1 h).1;rw[a8B] at hlen;have:j=d.2.1.length:=by omega
   subst this;have hl:=XT d;rw[hl] at h;cases h;show (d.2.1.length:Int)+1=_;omega
theorem a48 (d:yX) (k:Nat) (y:Int×List UInt8) (hl:d.2.1.length<=900000) (h:(xY d)[k]? =some y):F3 d (k:Int)=some (y.2,true):=by
 unfold F3;rw[aMI (by omega),aDt k (xY d) 0 (aKD d) y (aNt _) (by rw[Nat.sub_zero];exact h)];rfl
theorem aKE {x:List UInt8}{ts:List (List UInt8)}(h:x∈ts):x.length<=ts.flatten.length:=by
 obtain⟨p,q,rfl⟩:=List.append_of_mem h;simp only[List.flatten_append,aN3,aMN];omega
theorem aKF {tag h t g:List UInt8}{cms:List (List UInt8)}{fds:List rC}{es:List tY}{ts:List (List UInt8)}{k:Nat}(hg:yI g) (hH:E8 h tag cms fds) (hR:wY ts es) (ht:(G t).1=t.length) (hk:k<ts.length+2) (hl:ts.length<=900000):
  ∃x h' ts' t',F3 (h,(ts,(t,()))) (k:Int)=some (x,true)/\x.length<=(vO h ts t).length/\CW (h,(ts,(t,()))) (k:Int) (g++x)=some (h',ts',t',0)/\E8 h' tag cms fds/\wY ts' es/\(G t').1=t'.length/\ts'.length=ts.length/\(vO h' ts' t').length<=(vO h ts t).length+(g++x).length:=by
 have hw: ∀x:List UInt8,CW (h,(ts,(t,()))) (k:Int) x=(CV h (t,()) (k:Int) x ts).bind fun r=>some (r.1,r.2.2,r.2.1,(0:Int)):=fun x=>by
  unfold CW GG;dsimp only;rw[aMI (fun _=>by unfold p8;omega),aMK (by simp;omega),aMI (by omega),aMH,List.nil_append]
 have hlen:(vO h ts t).length=h.length+(ts.flatten.length+t.length):=by unfold vO;simp
 by_cases h0:k=0
 ·subst h0;refine⟨h,g++h,ts,t,a48 (h,(ts,(t,()))) 0 _ hl (XR _),by omega,?_,aKr hg hH,hR,ht,rfl,by unfold vO;simp only[aMN];omega⟩;rw[hw];unfold CV;rw[aMI (by simp),aMH]
 ·by_cases h1:k=ts.length+1
  ·subst h1;refine⟨t,h,ts,g++t,a48 (h,(ts,(t,()))) _ _ hl (XT _),by omega,?_,hH,hR,aKx hg ht,rfl,by unfold vO;simp only[aMN];omega⟩;rw[hw];unfold CV;rw[aMK (by simp;omega),aMI (by unfold p8;omega),aMI (by simp),aMH]
  ·obtain⟨j,rfl⟩: ∃j,k=j+1:=⟨k-1,by omega⟩;have hj:j<ts.length:=by omega
   have hgt:ts.getD j []=ts[j]:=by rw[aNa,aMR hj];rfl
   obtain⟨y,hy,hRy⟩:=hR.get (aMR hj);have hset:=hR.set (aKq hg hRy) j;have hes:es.set j y=es:=by
    apply List.ext_getElem?;intro i;rw[List.getElem?_set];split
    ·rename_i e;subst e;split
     ·exact hy.symm
     ·rename_i hh;have:=hR.len;omega
    ·rfl
   rw[hes] at hset;have hxl:=aKE (aNR hj);have hfl:=aKB (ts:=ts) (x:=g++ts[j]) j;refine⟨ts[j],h,ts.set j (g++ts[j]),t,?_,by omega,?_,hH,hset,ht,List.length_set ..,by unfold vO;simp only[aMN] at hfl⊢;omega⟩
   ·have:=a48 (h,(ts,(t,()))) (j+1) _ hl (XS (h,(ts,(t,()))) hj);rw[this];show some (ts.getD j [],true)=_;rw[hgt]
   ·rw[hw];unfold CV;rw[aMK (by simp;omega),aMI (by unfold p8;omega),aMK (by simp;omega),aMI (by unfold p8;omega),aMI (by omega),aMH];have:((((j+1:Nat):Int)- (1:Int)).toNat)=j:=by omega
    rw[this]
theorem aKG (s:List UInt8) {a:Int}(h0:0<=a) (h1:a<65536) {gs:List Int}(hg: ∀x∈gs,0<=x/\x<65536):IP s a gs=some true:=by
 unfold IP;rw[aJJ,aMH,aMK (by decide)];by_cases hA:((decide ((4000:Int)<(s.length:Int)))||(decide ((10:Int)<(gs.length:Int))))=true
 ·rw[aMI hA]
 ·rw[aMK hA];simp only[aNz,aMQ,not_or] at hA;have hs4:s.length<=4000:=by have:=hA.1;omega
  rcases aKz hs4 with⟨c,h,ts,t,hp⟩ |⟨e,w,he,g1,g2,g3⟩
  ·obtain⟨tag,cms,fds,es,⟨⟩⟩:=c;obtain⟨p1,p2,p3,p4,p5,p6,p7⟩:=hp;dsimp only at p2 p4 p5;have p7:C8 (tag,(cms,(fds,(es,()))))=true:=p7;have hE:E3 es:=aKA p7;have hlen:=p5.len;have hes:=hE.len;obtain⟨g,q1,q2,q3⟩:=aDs hg (by have:=hA.2;omega) gs.length 0 [] (by omega) aKn (by simp);have q1':pR (IN gs) (([]:List UInt8),(0:Int))=some g:=q1;obtain⟨k,hk,hke⟩:=aDr h0 h1 (n:=ts.length+2) (by omega);have hke':Int.tmod (IntKind.wrap .i64 a) ((ts.length:Int)+(2:Int))=(k:Int):=by
    rw[<-hke];congr 1
   obtain⟨x,h',ts',t',r1,r2,r3,r4,r5,r6,r7,r8⟩:=aKF q2 p4 p5 p6 hk (by omega);rw[p3] at r2 r8;have hxl:(g++x).length<=4120:=by rw[aMN];omega
   rw[p1,aMH];dsimp only;rw[aMK (by simp),q1'];unfold rE;rw[aMH,aMI (by unfold p8;omega),aMI (by omega),hke',r1,aMH];dsimp only;rw[aMI (by omega),r3,aMH,p2,aMH];dsimp only;have hB:(vO h' ts' t').length<=4000000000:=by omega
   rw[aJB (h',(ts',(t',()))) (by show ts'.length<=_;omega) (by exact aNC hB (by decide)),aMH];dsimp only;rw[aDq (c:=(tag,(cms,(fds,(es,()))))) r4 r5 r6 hE.pw hE.len hB,aMH];dsimp only;have hb3:(s++([10]:List UInt8))++g=vO h ts (t++(10::g)):=by
    rw[<-p3];unfold vO;simp
   have hB3:(vO h ts (t++(10::g))).length<=4000000000:=by
    rw[<-hb3];simp only[aMN,aMO,aNw];omega
   rw[aMI (by simp only[aMN,aMO,aNw];omega),aMI (by simp only[aMN,aMO,aNw];omega),hb3,aDq (c:=(tag,(cms,(fds,(es,()))))) p4 p5 (aKw q2 _ _ (aM2 _) p6) hE.pw hE.len hB3,aMH];dsimp only;obtain⟨z1,z2⟩:=aJ9 p7;dsimp only at z2;rw[z1,aMI aCc,aMI aCc,z2];rfl
  ·rw[g1,aMH];dsimp only;rw[aMI (by simp [he])]
end Go.Proofs.YtbbpilohihldiaaGreatDoor
namespace Go.Proofs.YtbbpilohihldiaaGreatDoor
open Go.ChangeShapes Go.WideShapes Go.ChangeAt Go.RowKit
section
variable {H:Type}{enc:TypeId×Value->H}{P:Program}
theorem aKH (hl:laidOutB P=true) {W W':World}(hb:Below W.heap.size W W'):
  ∀{ts:List TypeId}{vs:List Value}{ds:List (DataW H)}{ps:List MemPlace},(∀t∈ts,P.readableRec t=true/\t<P.types.size)->
  DataW.TrodAll enc P W 0 (fun _=>true) true ts vs ds ps->(∀x∈ps,x.block<W.heap.size)->
  DataW.TrodAll enc P W' 0 (fun b=>decide (b<W.heap.size)) true ts vs ds ps:=by
 intro ts
 induction ts with
 |nil=>
  intro vs ds ps _ h _;obtain⟨rfl,rfl,rfl⟩:=trodAll_nil h;exact trodAll_mk0
 |cons t ts ih=>
  intro vs ds ps hr h hlt;obtain⟨v,vs',d,ds',p,q,rfl,rfl,rfl,h0,r0⟩:=trodAll_cons h;exact trodAll_cons_mk (Below.trod hl (hr t (by simp)).1 (hr t (by simp)).2 h0 hb (fun x hx=>hlt x (by simp [hx]))) (ih (fun t' ht'=>hr t' (by simp [ht'])) r0 (fun x hx=>hlt x (by simp [hx])))
theorem aKI {f:Func}{s:ChangeSpec}{W W':World}{args:Array Value}{ds gs:List (DataW H)}{before:List MemPlace}{tb:TypeId}
  (hl:laidOutB P=true) (hr: ∀t∈f.params.toList,P.readableRec t=true/\t<P.types.size)
  (hW:DataW.Whole enc P f.params.toList s.vars false W args.toList ds gs before) (hv:s.vars=[])
  (hfn:s.fn H ds={results:=[.lit (.bool true)],args:=ds}) (hrt:f.resultTypes= #[tb]) (htb:P.underlying tb=some .bool)
  (hb:Below W.heap.size W W'):s.post enc P f false true false false W args (.bool true) W':=by
 have hW':=hW;obtain⟨p,q,hA,hV,rfl,hfz,hnd⟩:=hW;rw[hv] at hV;obtain⟨rfl,rfl⟩:=trodVars_none hV;have hlt: ∀x∈p,x.block<W.heap.size:=fun x hx=>by simpa using hW'.lt x (by simp [hx])
 refine⟨ds,[],p++[],[],p,[],hW',?_,?_,?_,hb.frame _,fun h=>by cases h⟩
 ·rw[List.append_nil,hfn,hrt];exact trodAll_mk1 (shut_bool htb true)
 ·rw[List.append_nil,hfn];exact aKH hl hb hr hA hlt
 ·rw[hv,List.append_nil,hfn];rfl
end
section
variable {H:Type}{enc:TypeId×Value->H}
theorem aKJ {C:Checked}{f:FuncId}{fn:Func}{s:ChangeSpec}{tb:TypeId}{EA:List (String×DataW Unit)}(own:ownKnob C.prog.godebug=none) {os:Os}(started:os.Started) (F:Stop.Interp)
  (noInit:C.prog.inits.idxOf? f=none) (hfn:C.prog.funcs[f]? =some fn)
  (hl:laidOutB C.prog=true) (hr: ∀t∈fn.params.toList,C.prog.readableRec t=true/\t<C.prog.types.size) (hv:s.vars=[])
  (hrt:fn.resultTypes= #[tb]) (htb:C.prog.underlying tb=some .bool)
  (hspec: ∀(ds:List (DataW H)) (W:World) (args:Array Value) ps,DataW.TrodAll enc C.prog W 0 (fun _=>true) true fn.params.toList args.toList ds ps->s.fn H ds={results:=[.lit (.bool true)],args:=ds})
  (witness: ∃(w:World) (tape:Tape) (i:Input),w.os=os/\(w.forCall tape i).Shaped C.prog/\i.vars=[]/\Input.okWide C.prog (w.forCall tape i) .any w.heap.size f i/\
   (OpenSpec.ofChange s).preRow enc C.prog fn [] false EA (w.forCall tape i).memory i.args/\Assume.holds {} C.prog (lone (Frame.enter C.prog f i.args .normal) [] (w.forCall tape i)))
  (contract: ∀(W:World) (base:Nat) (args:Array Value) (ds:List (DataW H)) (ps:List MemPlace),
   (∀(j:Nat) t v,fn.params[j]? =some t->args[j]? =some v->Value.okWide C.prog W .any base t v)->
   DataW.TrodAll enc C.prog W 0 (fun _=>true) true fn.params.toList args.toList ds ps->
   (∀x∈ps,x.block<W.heap.size)->(DataW.weightsEach C.prog fn.params.toList ds).all (·<=reachBytes)=true->laidMetH C.prog EA W->W.ShapedOpen C.prog->
   Calls C.prog f args W fun e W'=>e= .returned (.bool true)/\Below W.heap.size W W'):
  ReturnsInHanded {} C os f .any ((OpenSpec.ofChange s).preRow enc C.prog fn [] false EA) (s.post enc C.prog fn false true false false):=by
 refine returnsInHanded_of_row (C:=C) (s:=OpenSpec.ofChange s) (F:=F) own started noInit hfn witness ?_;intro W base args ds gs before hval hW _ _ hsz hL hsh _;have hW':=hW;obtain⟨p,q,hA,hV,rfl,hfz,hnd⟩:=hW;have hV':DataW.TrodVars enc C.prog W (fun _=>true) s.vars gs q:=hV;rw[hv] at hV';obtain⟨rfl,rfl⟩:=trodVars_none hV';have hlt: ∀x∈p,x.block<W.heap.size:=fun x hx=>by simpa using hW'.lt x (by simp [hx])
 have hvt:(OpenSpec.ofChange s).bare.plain.varTypes C.prog=[]:=by
  simp [OpenSpec.ofChange,ChangeSpec.plain,hv];rfl
 rw[hvt,List.append_nil,List.append_nil] at hsz;refine(contract W base args ds p hval hA hlt hsz hL hsh).mono fun e W' ⟨he,hb⟩=> ?_;subst he;exact⟨_,rfl,aKI hl hr hW' hv (hspec ds W args p hA) hrt htb hb⟩
end
end Go.Proofs.YtbbpilohihldiaaGreatDoor
namespace Go.Proofs.YtbbpilohihldiaaGreatDoor
open Vc Go.RowKit
inductive a49 where
 |ty (t:TypeId) |fs (o:Nat) (l:List Field)
inductive zK (P:Program):a49->Ty->Prop
 |bool {t}:P.underlying t=some .bool->zK P (.ty t) .bool
 |int {t k}:P.underlying t=some (.int k)->zK P (.ty t) (.int k)
 |str {t}:P.underlying t=some .string->zK P (.ty t) .str
 |list {t e u}:P.underlying t=some (.slice e)->P.cellsOf e=u.cells->0<u.cells->0<P.bytesOf e->zK P (.ty e) u->zK P (.ty t) (.list u)
 |struct {t fs ty}:ty.isRow=true->P.underlying t=some (.struct fs)->P.cellsOf t=ty.cells->zK P (.fs 0 fs.toList) ty->zK P (.ty t) ty
 |nil {o}:zK P (.fs o []) .unit
 |cons {o}{f:Field}{r a b}:f.offset=o->P.cellsOf f.type=a.cells->zK P (.ty f.type) a->zK P (.fs (o+a.cells) r) b->zK P (.fs o (f::r)) (.pair a b)
def Bd:(t:Ty)->t.den->Prop
 | .str,s=>List.length s<=140737488351232
 | .int k,n=>(Lit.int k n).wf=true
 | .list u,l=>List.length l<=140737488351232/\∀x:u.den,x∈(l:List u.den)->Bd u x
 | .pair a b,x=>Bd a x.1/\Bd b x.2
 |_,_=>True
def E9 (w:World):Gh:=⟨fun b _=>b<w.heap.size,fun _=>none,fun _ _=>none⟩
theorem aDu {α:Type}{R:α->List Value->Prop}{w:World}{S:Nat->Nat->Prop}{c b:Nat}: ∀{l:List α}{o:Nat},(∀i x,l[i]? =some x->∃cs,cs.length=c/\w.rangeAt b (o+i*c) cs/\(∀j,j<c->S b (o+i*c+j))/\R x cs)->wH R w S c b o l
 |[],_,_=>trivial
 |x::l,o,h=>by
  refine⟨?_,aDu fun i y hy=> ?_⟩
  ·obtain⟨cs,h1,h2,h3,h4⟩:=h 0 x rfl;exact⟨cs,h1,by simpa using h2,by simpa using h3,h4⟩
  ·obtain⟨cs,h1,h2,h3,h4⟩:=h (i+1) y (by simpa using hy);have e:o+(i+1)*c=o+c+i*c:=by rw[aNU];omega
   exact⟨cs,h1,by rw[<-e];exact h2,by rw[<-e];exact h3,h4⟩
section
variable {H:Type}{enc:TypeId×Value->H}{P:Program}{W:World}
theorem aDv {e:TypeId}: ∀{l:List (DataW H)}{i:Nat}{d:DataW H},l[i]? =some d->∀n∈d.weights P e,n∈DataW.weightsAll P e l
 |d0::l,0,d,h,n,hn=>by
  simp only[aNe,aMJ] at h;subst h;simp only[DataW.weightsAll,aNE];exact .inl hn
 |d0::l,i+1,d,h,n,hn=>by
  simp only[aNk] at h;simp only[DataW.weightsAll,aNE];exact .inr (aDv h n hn)
 |[],_,_,h,_,_=>by simp at h
def aKK (enc:TypeId×Value->H) (P:Program) (W:World):a49->Ty->Prop
 | .ty t,u=> ∀(fuel:Nat) (cs:List Value) (y:DataW H×List MemPlace),DataW.trod enc P W 0 (fun _=>true) true fuel t cs=some y->(∀n∈y.1.weights P t,n<=reachBytes)->∃x:u.den,Rd (E9 W) W u x cs/\Bd u x
 | .fs o l,u=> ∀(fuel:Nat) (cs:List Value) (xs:List (DataW H×List MemPlace)),cs.length=o+u.cells->xs.length=l.length->(∀(i:Nat) (f:Field),l[i]? =some f->DataW.trod enc P W 0 (fun _=>true) true fuel f.type ((cs.drop f.offset).take (P.cellsOf f.type))=xs[i]?)->(∀n∈DataW.weightsEach P (l.map (·.type)) (xs.map (·.1)),n<=reachBytes)->∃x:u.den,Rd (E9 W) W u x (cs.drop o)/\Bd u x
theorem aKL {e:TypeId}{u:Ty}{a:Addr}{len cap:Nat}(hc:P.cellsOf e=u.cells) (hpos:0<u.cells) (hcap:len<=cap)
  (each: ∀i,i<len->∃(cs:List Value) (x:u.den),W.cells? 0 (a.add (i*u.cells)) u.cells=some cs/\Rd (E9 W) W u x cs/\Bd u x):
  ∃l:List u.den,l.length=len/\Rd (E9 W) W (.list u) l [.slice (some a) len cap]/\∀x∈l,Bd u x:=by
 have build: ∀k,k<=len->∃l:List u.den,l.length=k/\∀i x,l[i]? =some x->∃cs:List Value,W.cells? 0 (a.add (i*u.cells)) u.cells=some cs/\Rd (E9 W) W u x cs/\Bd u x:=by
  intro k
  induction k with
  |zero=>intro _;exact⟨[],rfl,fun i x h=>by simp at h⟩
  |succ k ih=>
   intro hk;obtain⟨l,h1,h2⟩:=ih (by omega);obtain⟨cs,x,h3,h4⟩:=each k (by omega);refine⟨l++[x],by simp [h1],fun i y hy=> ?_⟩;rw[List.getElem?_append] at hy;split at hy
   ·exact h2 i y hy
   ·rename_i hi;obtain⟨j,hj⟩: ∃j,i=l.length+j:=⟨i-l.length,by omega⟩;subst hj;rw[aNv] at hy;cases j with
    |zero=>
     simp only[aNe,aMJ] at hy;subst hy;exact⟨cs,by rw[aNN,h1];exact h3,h4⟩
    |succ j=>simp at hy
 obtain⟨l,hll,hle⟩:=build len (aM2 _);refine⟨l,hll,?_,fun x hx=> ?_⟩
 ·subst hll;by_cases hl0:l=[]
  ·subst hl0;exact⟨some a,cap,rfl,hcap,.inl rfl⟩
  ·obtain⟨b,off,spot⟩:=a;have hlp:0<l.length:=aOm.2 hl0;have hspot:spot=none:=by
    obtain⟨cs,x,h3,_⟩:=each 0 hlp;have h4:=(World.cells?_some h3).2.2 0 hpos;have hlen0:=(World.cells?_some h3).2.1;rw[aMR (by omega)] at h4;simpa[Addr.add] using World.cell?_spot h4
   subst hspot;refine⟨_,cap,rfl,hcap,.inr ⟨b,off,rfl,aDu fun i x hx=> ?_⟩⟩;obtain⟨cs,h3,h4,_⟩:=hle i x hx;obtain⟨_,h5,h6⟩:=World.cells?_some h3;have hcell: ∀j v,cs[j]? =some v->W.cell? ⟨b,off+i*u.cells+j,none⟩=some v:=by
    intro j v hv;have hj:j<u.cells:=by have:=(aMX.1 hv).1;omega
    have:=h6 j hj;rw[hv] at this;rw[aOw,aOw] at this;exact this
   refine⟨cs,h5,hcell,fun j hj=> ?_,h4⟩;exact Vc.QA (hcell 0 _ (aMR (by omega)))
 ·obtain⟨i,hi,he⟩:=aOE hx;obtain⟨cs,h3,h4,h5⟩:=hle i x (by rw[aMR hi,he]);exact h5
theorem aKM {ix:a49}{u:Ty}(h:zK P ix u):aKK enc P W ix u:=by
 induction h with
 |bool ht=>
  intro fuel cs y hy _;obtain⟨b,rfl,_⟩:=DataW.trod_bool ht hy;exact⟨b,rfl,trivial⟩
 |int ht=>
  intro fuel cs y hy _;obtain⟨n,rfl,_,hw⟩:=DataW.trod_int ht hy;exact⟨n,rfl,hw⟩
 |str ht=>
  intro fuel cs y hy hw;obtain⟨s,rfl,rfl,_⟩:=DataW.trod_string ht hy;refine⟨s.data.toList,by show [Value.string s]=[Value.string ⟨s.data.toList.toArray⟩];rw[aOc],?_⟩;exact hw _ (by simp [DataW.weights])
 | @list t e u ht hc hpos hb _ ih=>
  intro fuel cs y hy hw;rcases DataW.trod_slice ht hy with⟨rfl,_⟩ |⟨a,len,cap,elems,rest,n,_,rfl,rfl,_,hl,_,hlen,hall,_,_⟩
  ·exact⟨[],⟨none,0,rfl,aM2 _,.inl rfl⟩,by simp,fun x hx=>by cases hx⟩
  ·have hws:DataW.weights P t (.slice (elems.map (·.1)) (rest.map (·.1)))=((elems.map (·.1)).length+(rest.map (·.1)).length)*P.bytesOf e::(DataW.weightsAll P e (elems.map (·.1))++DataW.weightsAll P e (rest.map (·.1))):=by
    simp [DataW.weights,ht]
   rw[hws] at hw;have hn:=hw _ aNf;obtain⟨l,h1,h2,h3⟩:=aKL (W:=W) (a:=a) (cap:=cap) hc hpos hl fun i hi=>by
    have h1:=hall i hi;rw[hc,aMR (by omega),Option.bind_eq_some_iff] at h1;obtain⟨cs,h2,h3⟩:=h1;obtain⟨x,hx⟩:=ih n cs _ h3 fun m hm=>hw m (by
     refine aM4 _ (aNE.2 (.inl (aDv (i:=i) ?_ m hm)));rw[List.getElem?_map,aMR (by omega)];rfl)
    exact⟨cs,x,h2,hx⟩
   refine⟨l,h2,?_,h3⟩;have:elems.length<=(elems.length+rest.length)*P.bytesOf e:=by
    calc elems.length<=(elems.length+rest.length)*1:=by omega
     _<=_:=Nat.mul_le_mul_left _ hb
   simp only[aN7] at hn;have hr:reachBytes=140737488351232:=rfl;show l.length<=_;omega
 |struct hrow ht hcl _ ih=>
  intro fuel cs y hy hw;obtain⟨xs,n,rfl,rfl,hl,hlen,hf⟩:=DataW.trod_struct ht hy;have:=ih n cs xs (by rw[hl,hcl];omega) (by rw[hlen];simp) (fun i f hi=>hf i f (by simpa using hi)) fun m hm=>hw m (by simpa[DataW.weights,ht] using hm);rwa [aNY] at this
 |nil=>
  intro fuel cs xs hl _ _ _;refine⟨(),?_,trivial⟩;show cs.drop _=[];exact List.drop_of_length_le (by simp [Ty.cells] at hl;omega)
 | @cons o f r a b ho hc _ _ iha ihb=>
  intro fuel cs xs hl hx hf hw;cases xs with
  |nil=>simp at hx
  |cons x0 xs=>
   have h0:=hf 0 f rfl;rw[hc,ho] at h0;obtain⟨xa,ra,ba⟩:=iha fuel _ x0 h0 fun m hm=>hw m (by simp only[aNT,DataW.weightsEach,aNE];exact .inl hm);obtain⟨xb,rb,bb⟩:=ihb fuel cs xs (by simp only[Ty.cells] at hl;omega) (by simpa using hx) (fun i f' hi=>by have:=hf (i+1) f' (by simpa using hi);simpa using this) fun m hm=>hw m (by simp only[aNT,DataW.weightsEach,aNE];exact .inr hm);refine⟨(xa,xb),⟨_,_,(aNO a.cells (cs.drop o)).symm,ra,?_⟩,ba,bb⟩;rw[aNo];exact rb
theorem a5a {t:TypeId}{u:Ty}{base:Nat}{v:Value}{d:DataW H}{ps:List MemPlace}(h:zK P (.ty t) u) (hok:Value.okWide P W .any base t v) (hT:DataW.Trod enc P W 0 (fun _=>true) true t v d ps) (hw: ∀n∈d.weights P t,n<=reachBytes): ∃x:u.den,rZ (E9 W) W u x v/\Bd u x:=by
 obtain⟨fuel,hf⟩:=hT;obtain⟨x,hx,hb⟩:=aKM (enc:=enc) (W:=W) h fuel _ _ hf hw;refine⟨x,?_,hb⟩;cases h with
 |bool ht=>obtain⟨b,rfl⟩:=Go.WideShapes.okWide_bool ht hok;exact .inr ⟨rfl,hx⟩
 |int ht=>obtain⟨b,rfl⟩:=Go.WideShapes.okWide_int ht hok;exact .inr ⟨rfl,hx⟩
 |str ht=>obtain⟨b,rfl⟩:=Go.WideShapes.okWide_string ht hok;exact .inr ⟨rfl,hx⟩
 |list ht=>obtain⟨a,l,c,rfl⟩:=Go.WideShapes.okWide_slice ht hok;exact .inr ⟨rfl,hx⟩
 |struct hrow ht=>obtain⟨cs,rfl,_⟩:=Go.WideShapes.okWide_struct ht hok;exact .inl ⟨hrow,cs.toList,by rw[aOc],hx⟩
end
end Go.Proofs.YtbbpilohihldiaaGreatDoor
namespace Go.Proofs.YtbbpilohihldiaaGreatDoor
open Go.Shelf Go.Lib
open Vc
theorem aKN:(Rows.laid_unicode_utf8_first:DataW Unit)=Lib.firstData:=by kernel_rfl
theorem aKO:(Rows.laid_unicode_utf8_acceptRanges:DataW Unit)=Lib.acceptData:=by kernel_rfl
theorem aKP {P:Program}{w:World}{g:Nat}{t:TypeId}{k:IntKind}{zero:Array Value}(h:w.ShapedOpen P) (hg:g<P.globals.size)
  (h0:((begin P (fun _ _=>0) default).world.heap[g]?).bind Obj.row? =some (zero,t)) (hz:zero.size=1)
  (hb:P.buildable t=true) (hc:P.cellTypes P.depth t=some [t]) (hu:P.underlying t=some (.int k)): ∃m,w.cell? ⟨g,0,none⟩=some (.int k m):=by
 obtain⟨cs,hh,hs,hr⟩:=h.1 g zero t hg h0;obtain⟨ts,hts,_,hall⟩:=hr hb;rw[hc] at hts;cases hts;have h1:0<cs.size:=by omega
 obtain⟨u,hu',hok⟩:=hall 0 cs[0] (by simp [h1]);have:u=t:=by simpa using hu'.symm
 subst this;have hcell:w.cell? ⟨g,0,none⟩=some cs[0]:=by simp [World.cell?,hh,h1]
 rw[hcell];unfold Cell.ok at hok;rw[hu] at hok;cases hv:cs[0]<;>rw[hv] at hok<;>simp at hok
 rename_i k' m;exact⟨m,by rw[hok.1]⟩
theorem aKQ {W:World}(hsh:W.ShapedOpen Tryz.prog): ∃m,W.cell? ⟨0,0,none⟩=some (.int .i64 m):=
 aKP (t:=3) (zero:= #[.int .i64 0]) hsh (aNq (by kernel_rfl)) (by kernel_rfl) rfl (by kernel_rfl) (by kernel_rfl) Tryz.underlying3
def aKR:Ren:=⟨fun x=>x,fun x=>if x=5 then 5 else if x=119 then 254 else if x=138 then 256 else 257,fun x=>if x=3 then 1 else 2⟩
theorem a5b {w:World}{a:Addr}{v:Value}(h:w.cell? a=some v):a.block<w.heap.size:=by
 unfold World.cell? at h;split at h
 ·rename_i hb;exact(aNc.1 hb).1
 ·cases h
theorem aKS {W:World}(hL:laidMet Tryz.prog Rows.treeFreeRow.laid W) (hsh:W.ShapedOpen Tryz.prog):H6 W:=by
 obtain⟨m,hm⟩:=aKQ hsh;have h1:=laidMet.reads hL (.head _);have h2:=laidMet.reads hL (.tail _ (.head _));rw[aKN] at h2;rw[aKO] at h1;have hU:Lib.Utf8Tabs 1 2 W:=utf8Tabs_of_readsT (ρ:=aKR) ⟨by kernel_rfl,by kernel_rfl,by kernel_rfl,by kernel_rfl⟩ ⟨by kernel_rfl,by kernel_rfl,by kernel_rfl,by kernel_rfl,by kernel_rfl,by kernel_rfl,by kernel_rfl⟩ h2 h1;refine⟨?_,hU,⟨m,hm⟩,fun _ h=>by cases h⟩;have b0:0<W.heap.size:=a5b hm;have b1:1<W.heap.size:=a5b (hU.1 0 (by decide));have b2:2<W.heap.size:=a5b (hU.2 0 (by decide)).1;show 3<=W.heap.size;omega
noncomputable def U0 (os:Os):World:=
 let w0:=World.holding Tryz.prog os ⟨#[],#[],[]⟩
 let sQ (h:Array Obj) (g:Nat) (cs:Array Value):Array Obj:=h.modify g fun
  | .cells _ t frozen=> .cells cs t frozen
  |o=>o
 let h1:=sQ w0.heap 1 (Lib.firstTab.map fun z=>Value.int .u8 z).toArray
 let h2:=sQ h1 2 ((List.range 16).flatMap fun i=>[Value.int .u8 (Lib.accLo i),Value.int .u8 (Lib.accHi i)]).toArray
 {w0 with heap:=h2}
theorem aKT (os:Os) (args:Array Value):laidMet Tryz.prog Rows.treeFreeRow.laid ((U0 os).forCall (fun _ _=>0) ⟨#[],args,[]⟩).memory:=
 (LaidIn.of_run [2,1] 8 (by kernel_rfl) (by kernel_rfl) (by kernel_rfl) (by kernel_rfl):LaidIn Tryz.prog _ Rows.treeFreeRow.laid _).met
theorem aKU:zK Tryz.prog (.ty 9) .str:= .str Tryz.underlying9
end Go.Proofs.YtbbpilohihldiaaGreatDoor
namespace Go.Proofs.YtbbpilohihldiaaGreatDoor
open Vc
open Go.ChangeShapes Go.WideShapes Go.ChangeAt Go.RowKit
theorem aDw:zK Tryz.prog (.ty 5) (.int .u8):= .int Tryz.underlying5
theorem aKV:zK Tryz.prog (.ty 42) (.list (.int .u8)):= .list Tryz.underlying42 (by kernel_rfl) (by decide) (aNq (by kernel_rfl)) aDw
theorem a5c {n:Int}(h:Bd (.int .u8) n):0<=n/\n<65536:=by
 have h':(Lit.int .u8 n).wf=true:=h;unfold Lit.wf at h';rw[aMS,aMQ,aMQ] at h';have h1:(0:Int)<=n:=h'.1;have h2:n<=2^8-1:=h'.2;omega
theorem aKW {W:World}(hT:H6 W) (v0 v1 v2:Value) (x0:List UInt8) (x1:Int) (x2:List Int) (h0:rZ (E9 W) W .str x0 v0) (h1:rZ (E9 W) W (.int .u8) x1 v1) (h2:rZ (E9 W) W (.list (.int .u8)) x2 v2) (B0:Bd .str x0) (B1:Bd (.int .u8) x1) (B2:Bd (.list (.int .u8)) x2):
  Calls Tryz.prog 5 #[v0,v1,v2] W fun e W'=>e= .returned (.bool true)/\Below W.heap.size W W':=by
 have hC:a4r (O2 x0 x1 x2) SU=some (LB x0 x1 x2):=aHH _ _ _;have ht:=aKG x0 (a5c B1).1 (a5c B1).2 (gs:=x2) (fun x hx=>a5c (B2.2 x hx));refine(aHJ.1.2 (E9 W) W (O2 x0 x1 x2) [v0,v1,v2] [] _ ⟨(fun i b h=>by cases h),(fun i j bi bj b o _ h=>by cases h),fun b o h=>h,hT,(fun i blk b o h=>by cases h)⟩ ⟨v0,[v1,v2],rfl,⟨h0,trivial⟩,v1,[v2],rfl,⟨h1,trivial⟩,v2,[],rfl,⟨h2,trivial⟩,rfl⟩ hC ?_).mono fun e W' ⟨v,g',he,r⟩=> ?_
 ·intro p hp;have:p=((IP x0 x1 x2).isSome=true):=by simpa[LB] using hp
  rw[this,ht];rfl
 ·have hv:v= .bool true:=by
   have h1:=r.ret;unfold LB at h1;rw[ht] at h1;exact vL h1.1
  subst hv;exact⟨he,⟨r.fr.os,r.fr.tape,r.fr.output,r.fr.size,fun k hk=>r.fr.blk k hk (fun o ⟨i,blk,hi,_⟩=>by cases hi)⟩⟩
end Go.Proofs.YtbbpilohihldiaaGreatDoor
namespace Go.Proofs.YtbbpilohihldiaaGreatDoor
open Go.ChangeShapes Go.WideShapes Go.ChangeAt Go.RowKit Go.Lib
theorem aKX:(Rows.treeFreeRow.inPlace==Tryz.prog.inPlace 5)=true:=by kernel_rfl
theorem aKY:(Rows.treeFreeRow.unfollowed==Tryz.prog.unfollowed 5)=true:=by kernel_rfl
theorem aKZ:(Rows.treeFreeRow.recurses==Tryz.prog.recurses 5)=true:=by kernel_rfl
theorem aK0:(Rows.treeFreeRow.named==Tryz.prog.varsNamed 5)=true:=by kernel_rfl
theorem aK1:joinedFacts Tryz.prog 5 Tryz.f5 Rows.treeFreeSpec Rows.treeFreeRow=true:=by
 unfold joinedFacts;rw[aKX,aKY,aKZ,aK0]
 kernel_rfl
namespace treeFreeLaw
theorem own:ownKnob Tryz.prog.godebug=none:=by kernel_rfl
theorem EA:laidOutB Tryz.prog=true:=by kernel_rfl
theorem aK2:Tryz.prog.readableRec 9=true:=by kernel_rfl
theorem aK3:9<Tryz.prog.types.size:=aNq (by kernel_rfl)
theorem aK4:Tryz.prog.readableRec 5=true:=by kernel_rfl
theorem aK5:5<Tryz.prog.types.size:=aNq (by kernel_rfl)
theorem aK6:Tryz.prog.readableRec 42=true:=by kernel_rfl
theorem aK7:42<Tryz.prog.types.size:=aNq (by kernel_rfl)
theorem aK8 (os:Os) {H:Type}(enc:TypeId×Value->H):
  (OpenSpec.ofChange Rows.treeFreeSpec).preRow enc Tryz.prog Tryz.f5 [] false Rows.treeFreeRow.laid ((U0 os).forCall (fun _ _=>0) ⟨#[],#[.string ⟨#[]⟩,.int .u8 0,.slice none 0 0],[]⟩).memory #[.string ⟨#[]⟩,.int .u8 0,.slice none 0 0]:=by
 have hw:(DataW.whole enc Tryz.prog ((U0 os).forCall (fun _ _=>0) ⟨#[],#[.string ⟨#[]⟩,.int .u8 0,.slice none 0 0],[]⟩).memory Tryz.f5.params.toList (OpenSpec.ofChange Rows.treeFreeSpec).vars false #[.string ⟨#[]⟩,.int .u8 0,.slice none 0 0].toList 8).map (fun x=>(x.1,x.2.1))=
   some ([.lit (.string []),.lit (.int .u8 0),.nil],[]):=by kernel_rfl
 obtain⟨⟨x1,x2,x3⟩,hx,hx1⟩:=aMZ.1 hw;simp only[aM9] at hx1;obtain⟨rfl,rfl⟩:=hx1;exact OpenSpec.preRow_of_cond 8 hx (by kernel_rfl) (fun k hk=>by cases hk) (by kernel_rfl) (aKT os _)
theorem lifted (os:Os) (started:os.Started) (H:Type) (enc:TypeId×Value->H) (F:Stop.Interp):
  ReturnsInHanded {} Tryz.checked os 5 .any ((OpenSpec.ofChange Rows.treeFreeSpec).preRow enc Tryz.prog Tryz.f5 [] false Rows.treeFreeRow.laid) (Rows.treeFreeSpec.post enc Tryz.prog Tryz.f5 false true false false):=by
 refine aKJ (C:=Tryz.checked) (tb:=4) own started F (by kernel_rfl) Tryz.func5 EA ?_ rfl rfl Tryz.underlying4 ?_
  (witness_row_atRef (enc:=enc) (C:=Tryz.checked) false (U0 os) #[.string ⟨#[]⟩,.int .u8 0,.slice none 0 0] rfl (by kernel_rfl) (by kernel_rfl) (by kernel_rfl) (aK8 os enc)) ?_
 ·intro t ht;rw[Tryz.params5] at ht;simp only[aM1,aOo,or_false] at ht;rcases ht with rfl|rfl|rfl
  ·exact⟨aK2,aK3⟩
  ·exact⟨aK4,aK5⟩
  ·exact⟨aK6,aK7⟩
 ·intro ds W args ps h;have h':DataW.TrodAll enc Tryz.prog W 0 (fun _=>true) true Tryz.f5.params.toList args.toList ds ps:=h;rw[Tryz.params5] at h';obtain⟨v0,v1,v2,d0,d1,d2,p0,p1,p2,rfl,rfl,rfl,h0,h1,h2⟩:=trodAll_three h';rfl
 ·intro W base args ds ps hval0 hA0 hlt hsz0 hL hsh;have hval: ∀(j:Nat) t v,Tryz.f5.params[j]? =some t->args[j]? =some v->Value.okWide Tryz.prog W .any base t v:=hval0;have hA:DataW.TrodAll enc Tryz.prog W 0 (fun _=>true) true Tryz.f5.params.toList args.toList ds ps:=hA0;have hsz:(DataW.weightsEach Tryz.prog Tryz.f5.params.toList ds).all (·<=reachBytes)=true:=hsz0;rw[Tryz.params5] at hA hval hsz;obtain⟨v0,v1,v2,d0,d1,d2,p0,p1,p2,rfl,rfl,rfl,h0,h1,h2⟩:=trodAll_three hA;obtain⟨x0,g0,B0⟩:=a5a aKU (hval 0 9 v0 rfl rfl) h0 (fun n hn=>by
   have:=aOa.1 hsz n (DataW.weights_mem_each (j:=0) rfl rfl n hn);simpa using this)
  obtain⟨x1,g1,B1⟩:=a5a aDw (hval 1 5 v1 rfl rfl) h1 (fun n hn=>by
   have:=aOa.1 hsz n (DataW.weights_mem_each (j:=1) rfl rfl n hn);simpa using this)
  obtain⟨x2,g2,B2⟩:=a5a aKV (hval 2 42 v2 rfl rfl) h2 (fun n hn=>by
   have:=aOa.1 hsz n (DataW.weights_mem_each (j:=2) rfl rfl n hn);simpa using this)
  exact aKW (aKS hL hsh) v0 v1 v2 x0 x1 x2 g0 g1 g2 B0 B1 B2
end treeFreeLaw
theorem aDx:Rows.TreeFreeSaid:=
 OpenClaim.holds_of_wide 5 Tryz.f5 rfl rfl rfl rfl rfl rfl rfl ⟨rfl,rfl,rfl,rfl,rfl⟩ rfl rfl rfl rfl rfl (by kernel_rfl) Tryz.func5 aK1
  (aNq (by kernel_rfl)) (by unfold Func.isWrapper;first|(rw[aMI (by decide+kernel)];kernel_rfl) |(rw[aMK (by decide+kernel)];exact⟨rfl,rfl⟩))
  (fun os started H enc _=>by rw[OpenClaim.pre_eq_preRow];exact treeFreeLaw.lifted os started H enc (fun _ _ _=>0))
#print axioms aDx
end Go.Proofs.YtbbpilohihldiaaGreatDoor
namespace Go.Proofs.YtbbpilohihldiaaGreatDoor
open Go
theorem aK9:Rows.treeFreeRow.wfByText (OpenSpec.ofChange Rows.treeFreeSpec)=true:=by kernel_rfl
theorem aLa:Tryz.prog.mainIs=some (true, "a32bce6e8aa7af12dc4e9cc10fcfd390a8b62eedc0063c9f8df073b3dc5897a3".toList):=by kernel_rfl
theorem aLb:false=Tryz.prog.looks []:=by kernel_rfl
theorem aLc:false=Rows.treeFreeRow.goesBy Tryz.prog:=by kernel_rfl
theorem aLd:Tryz.prog.funcNamed "calque/calquelaw40.TreeFree" =some 5:=by kernel_rfl
theorem aLe:([9,5,42].all fun u=> !Tryz.prog.wantsStandIn u)=true:=by kernel_rfl
theorem treeFreeCard_holds:Rows.TreeFreeCardSaid:=
 Claim7.holds_tied_plain_at .later [] [.data,.pinned] true (true, "a32bce6e8aa7af12dc4e9cc10fcfd390a8b62eedc0063c9f8df073b3dc5897a3") false
  aDx (fun _ h=>by cases h) aK9 (fun _ h=>by cases h) treeFree_row_tie rfl ⟨rfl,rfl⟩ aLa rfl
  (fun f fn hf hfn=>by
   obtain rfl:f=5:=aML (aLd.symm.trans hf) |>.symm
   obtain rfl:fn=Tryz.f5:=(aML (Tryz.func5.symm.trans hfn)).symm;exact⟨aLb,fun j t ht=>by
    rw[Tryz.params5] at ht;have hm:t∈[9,5,42]:=by simpa using Array.mem_of_getElem? ht
    exact(show Tryz.prog.wantsStandIn t=false by simpa using aOa.1 aLe t hm)⟩)
  aLc
#print axioms treeFreeCard_holds
end Go.Proofs.YtbbpilohihldiaaGreatDoor
