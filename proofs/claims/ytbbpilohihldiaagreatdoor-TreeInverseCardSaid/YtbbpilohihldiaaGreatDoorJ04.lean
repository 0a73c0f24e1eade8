/- Packed by a program of mine (wip/tools/pack.py): the same texts with short names and few blanks. -/
import Derived.Laws.BitsLemmas
import Derived.Lib.Index
import Derived.Lib.IndexAny
import Derived.Sort.Walk0
import Derived.Test.YtbbpilohihldiaaGreatDoorJ03
set_option linter.unusedVariables false
set_option linter.unusedSimpArgs false
set_option linter.unusedSectionVars false
set_option maxRecDepth 100000
set_option maxHeartbeats 4000000
namespace Go.Proofs.YtbbpilohihldiaaGreatDoor
open Vc
theorem sC {i:Nat}(h:i<=4000000000):pE ((i:Int)+1):=by unfold pE;omega
theorem rR {i n:Nat}(h:i<n):0<=(i:Int)/\(i:Int)<(n:Int):=⟨by omega,by omega⟩
theorem sX {i n:Nat}(h:i<n):decide ((i:Int)<(n:Int))=true:=by simpa using h
theorem uM (n:Nat): ¬decide ((n:Int)<(n:Int))=true:=by simp
theorem aGB {α:Type}{p:α->Bool}: ∀{l:List α},(l.findIdx? p).isSome=l.any p
 |[]=>rfl
 |x::l=>by
  rw[aUI,List.any_cons];cases p x with
  |true=>rfl
  |false=>simp [aGB (l:=l)]
theorem IL {α β:Type}{p:α->Bool}{l:List α}{f:Nat->β}{b:β}:uA f b (l.findIdx? p)=if l.any p=true then f ((l.findIdx? p).getD 0) else b:=by
 rw[<-aGB];cases l.findIdx? p with
 |none=>rfl
 |some k=>rfl
def KM (c:Int):Bool:=(((!((decide ((97:Int)<=c))&&(decide (c<=(122:Int)))))&&(!((decide ((48:Int)<=c))&&(decide (c<=(57:Int))))))&&(!decide (c=(45:Int))))&&((decide (c<(65:Int)))||(decide ((90:Int)<c)))
def tY (s:List UInt8):Bool:= !(s.any fun b=>KM b.toNat)&&((decide ((1:Int)<=(s.length:Int)))&&(decide ((s.length:Int)<=(40:Int))))
theorem N9 (s:List UInt8) (hs:pS s):DW s=some (tY s):=by
 unfold pS at hs;have h:=BF (f:=Q6 s) (l:=s) (fun b=>KM b.toNat) (fun _=>false) (fun i h=>by
  unfold Q6;rw[aTD (sX h),aTD (rR h),yD h,aTD (sC (by omega))];rfl) (by
  unfold Q6;rw[aTG (uM _)])
 unfold DW;rw[h,IL];unfold tY;cases s.any fun b=>KM b.toNat<;>rfl
def VV (c:Int):Bool:=((((decide (c<(97:Int)))||(decide ((122:Int)<c)))&&((decide (c<(65:Int)))||(decide ((90:Int)<c))))&&((decide (c<(48:Int)))||(decide ((57:Int)<c))))&&(!decide (c=(45:Int)))
theorem aND (c:Int):VV c=KM c:=by
 unfold VV KM;rw[aUH];simp;omega
theorem a8k (s:List UInt8):GD s=some (tY s):=by
 have h:=aCA (f:=PT s) (s:=s) (fun c=>VV c) (fun _=>false) (fun c h=>by unfold VV;simp;omega) (fun i h=>by
  unfold PT;rw[aTD (by simpa using h),aTD (by simpa using h)];rfl) (by
  unfold PT;rw[aTG (by simp)])
 unfold GD;rw[h,IL];simp only[aND];unfold tY;cases s.any fun b=>KM b.toNat<;>rfl
def xF (c:Int):Bool:=((((!((decide ((97:Int)<=c))&&(decide (c<=(122:Int)))))&&(!((decide ((48:Int)<=c))&&(decide (c<=(57:Int))))))&&(!decide (c=(45:Int))))&&(!decide (c=(95:Int))))&&(!decide (c=(46:Int)))
def yK (c:Int):Bool:=(decide ((97:Int)<=c))&&(decide (c<=(122:Int)))
def rY:List UInt8->Bool
 |[]=>false
 |b::t=>(!decide (40<t.length+1)&&yK b.toNat)&& !(t.any fun b=>xF b.toNat)
theorem VW (s:List UInt8) (hs:pS s):F6 s=some (rY s):=by
 unfold pS at hs;unfold F6;cases s with
 |nil=>simp [rY]
 |cons b t=>
  have hb0:pR (b::t) (0:Int)=(b.toNat:Int):=yD (i:=0) (by simp);rw[aTD (fun _=>⟨aUq 0,by simp only[aTJ];omega⟩),hb0];unfold rY;by_cases hl:(40:Int)<((b::t).length:Int)
  ·have hl2:40<t.length+1:=by simp only[aTJ] at hl;omega
   rw[aTD (by simp only[hl,decide_true,Bool.or_true,Bool.true_or])];simp [hl2]
  ·have hl2: ¬40<t.length+1:=by simp only[aTJ] at hl;omega
   have hl3: ¬((b::t).length:Int)<1:=by simp;omega
   by_cases hb:yK b.toNat=true
   ·rw[aTG (by unfold yK at hb;simp only[hl,hl3,hb];simp)];have h:=a0I (f:=Q7 (b::t)) (l:=b::t) (fun b=>xF b.toNat) (fun _=>false) (fun i h=>by
     unfold Q7;rw[aTD (sX h),aTD (rR h),yD h,aTD (sC (by omega))];rfl) (by
     unfold Q7;rw[aTG (uM _)]) t.length 1 (by simp;omega)
    rw[show ((1:Nat):Int)=1 from rfl] at h;rw[h,IL];simp only[aVD,aUO,hb,hl2,decide_false,Bool.not_false,Bool.true_and];cases t.any fun b=>xF b.toNat<;>rfl
   ·rw[aTD (by unfold yK at hb;simp only[hb];simp)];simp [hb]
theorem aGC (s:List UInt8): ∀(n j:Nat),j+n=s.length->qB (MF s) j=some (if (s.drop j).any (fun b=>xF b.toNat)=true\/(j=0/\s≠[]/\yK (s.getD 0 0).toNat=false) then .inr false else .inl ())
 |0,j,hj=>by
  have:j=s.length:=by omega
  subst this;rw[aUk,xV];unfold MF;rw[aTG (by simp)];by_cases h0:s=[]
  ·subst h0;simp
  ·have:s.length≠0:=by simpa using h0
   simp [this]
 |n+1,j,hj=>by
  have hlt:j<s.length:=by omega
  have ih:=aGC s n (j+1) (by omega);rw[xV,aT2 hlt,List.any_cons];have hstep:MF s j=if (xF (s[j].toNat:Int)=true\/(j=0/\yK (s[j].toNat:Int)=false)) then some (.inr (.inr false)) else some (.inl (j+1)):=by
   unfold MF;rw[aTD (by simpa using hlt),aTD (by simpa using hlt),aTD (by simpa using hlt)];by_cases ha:s[j].toNat<128
   ·obtain⟨e1,e2⟩:=aCx hlt ha;rw[e1,e2];by_cases h1:yK (s[j].toNat:Int)=true
    ·rw[aTD (by unfold yK at h1;exact h1),aTG];unfold yK at h1;simp only[aTL,aTK] at h1;simp [xF,yK];omega
    ·have h1':yK (s[j].toNat:Int)=false:=by simpa using h1
     rw[aTG (by unfold yK at h1;exact h1)];have h2: ¬(97<=(s[j].toNat:Int)/\(s[j].toNat:Int)<=122):=by
      unfold yK at h1;simpa using h1
     by_cases h3:xF (s[j].toNat:Int)=true\/j=0
     ·rw[aTG,aTD]
      ·rcases h3 with h3|h3
       ·exact .inl h3
       ·exact .inr ⟨h3,h1'⟩
      ·simp [xF] at h3⊢;omega
     ·rw[aTD,aTG]
      ·intro h;rcases h with h|⟨h,_⟩
       ·exact h3 (.inl h)
       ·exact h3 (.inr h)
      ·simp [xF] at h3⊢;omega
   ·have hb:=aCy hlt (by omega);rw[aTG (by simp;omega),aTG (by simp;omega),aTD (.inl (by simp [xF];omega))]
  rw[hstep];have hd:s.getD 0 0=s[0]'(by omega):=by simp [aT6,aTM (show 0<s.length by omega)]
  have hne:s≠[]:=by intro h;subst h;simp at hlt
  by_cases hp:xF (s[j].toNat:Int)=true\/(j=0/\yK (s[j].toNat:Int)=false)
  ·rw[aTD hp,aTD]
   ·rfl
   ·rcases hp with hp|⟨rfl,hp⟩
    ·left;simp [hp]
    ·right;exact⟨rfl,hne,by rw[hd];exact hp⟩
  ·rw[aTG hp];show qB _ (j+1)=_;rw[ih];have hnb:xF (s[j].toNat:Int)=false:=by
    cases h:xF (s[j].toNat:Int) with
    |true=>exact absurd (.inl h) hp
    |false=>rfl
   simp only[hnb,Bool.false_or];congr 2;apply propext;constructor
   ·rintro(h|⟨h,_⟩)
    ·exact .inl h
    ·omega
   ·rintro(h|⟨rfl,_,h⟩)
    ·exact .inl h
    ·rw[hd] at h;exact absurd (.inr ⟨rfl,h⟩) hp
theorem VX (s:List UInt8):CX s=some (rY s):=by
 have h:=aGC s s.length 0 (by omega);unfold CX;rw[h,aUO];cases s with
 |nil=>simp [rY,rW]
 |cons b t=>
  simp only[List.any_cons,List.getD_cons_zero,ne_eq,reduceCtorEq,not_false_eq_true,true_and,rY];cases hs:yK b.toNat with
  |false=>simp [rW]
  |true=>
   have hn:xF b.toNat=false:=by
    unfold yK at hs;simp only[aTL,aTK] at hs;simp [xF];omega
   simp only[hn,Bool.false_or];cases t.any (fun b=>xF b.toNat) with
   |true=>simp [rW]
   |false=>
    simp only[aUU,false_or,and_false,aVU];show some (decide ((1:Int)<=((b::t).length:Int))&&decide (((b::t).length:Int)<=40))=_;congr 1;rw[aUH];simp only[aTJ,aTL,aTK,aT8,aUh,Bool.not_false,and_true];omega
theorem a8l {α:Type}{p:α->Bool}{l:List α}:uA (fun _=>true) false (l.findIdx? p)=l.any p:=by
 rw[IL];cases l.any p<;>rfl
theorem FD {β:Type}{f:Nat->β}{b:β}{o:Option Nat}:rW (some (uA (fun k=> .inr (f k)) (.inl ()) o)) (fun _=>some b)=some (uA f b o):=by
 cases o<;>rfl
theorem aNE (l:List (List UInt8)) (s:List UInt8) (hl:pS l):V9 l s=some (l.any fun x=>decide (x=s)):=by
 unfold pS at hl;have h:=BF (f:=V8 l s) (l:=l) (fun x=>decide (x=s)) (fun _=>true) (fun i h=>by
  unfold V8;rw[aTD (sX h),aTD (rR h),xW (t:= .str) h,aTD (sC (by omega))]) (by
  unfold V8;rw[aTG (uM _)])
 unfold V9;rw[h,FD,a8l]
theorem aGD (l:List (List UInt8)) (s:List UInt8) (hl:pS l):C6 l s=some (uA (fun k=>(k:Int)) (-1) (l.findIdx? fun x=>decide (s=x))):=by
 unfold pS at hl;have h:=BF (f:=PW l s) (l:=l) (fun x=>decide (s=x)) (fun k=>(k:Int)) (fun i h=>by
  unfold PW;rw[aTD (sX h),aTD (rR h),xW (t:= .str) h,aTD (sC (by omega))]) (by
  unfold PW;rw[aTG (uM _)])
 unfold C6;rw[h,FD]
theorem aGE {α:Type}{p:α->Bool}{l:List α}:decide ((0:Int)<=uA (fun k=>(k:Int)) (-1) (l.findIdx? p))=l.any p:=by
 rw[IL];cases l.any p
 ·rfl
 ·simp only[aVg,aTK];omega
theorem aNF (l:List (List UInt8)) (s:List UInt8) (hl:pS l):GN l s=some (l.any fun x=>decide (x=s)):=by
 unfold GN;rw[aGD l s hl];show some (decide _)=_;rw[aGE];simp only[eq_comm]
def wI:List (List UInt8):=[[110,101,119],[102,117,122,122,121],[116,114,97,110,115,108,97,116,101,100],[114,101,118,105,101,119,101,100],[111,98,115,111,108,101,116,101]]
def tN (s:List UInt8):Int:=uA (fun k=>(k:Int)) (-1) (wI.findIdx? fun x=>decide (x=s))
theorem aGF (s:List UInt8):MD s=some (tN s):=by
 have h:=BF (f:=UZ s) (l:=wI) (fun x=>decide (x=s)) (fun k=>(k:Int)) (fun i h=>by
  have h5:i<5:=h;unfold UZ a1f;rw[aTD (by simp;omega),aTD (⟨by omega,by simp;omega⟩)];show (if decide (pU .str wI (i:Int)=s)=true then _ else _)=_;rw[xW (t:= .str) h,aTD (sC (by omega))]) (by
  unfold UZ;rw[aTG (by simp [wI])])
 unfold MD;rw[h,FD];rfl
theorem VY (s:List UInt8):I7 s=some (decide (0<=tN s))/\C6 wI s=some (tN s):=by
 have hi:C6 wI s=some (tN s):=by
  rw[aGD wI s (by unfold pS;decide)];unfold tN;simp only[eq_comm]
 refine⟨?_,hi⟩;unfold I7 GN;show ((C6 wI s).bind _).bind _=_;rw[hi];rfl
abbrev rF:=List UInt8×List UInt8×Unit
abbrev tF:Ty:= .pair .str (.pair .str .unit)
def zC (l:List rF) (n:List UInt8):Option Nat:=l.findIdx? fun x=>decide (x.1=n)
def QY (l:List rF) (n:List UInt8):List UInt8×Bool:=uA (fun k=>((l.getD k ([],[],())).2.1,true)) ([],false) (zC l n)
theorem aGG (l:List rF) (n:List UInt8):(QY l n).2=l.any fun x=>decide (x.1=n):=by
 unfold QY zC;rw[IL];cases l.any fun x=>decide (x.1=n)<;>rfl
theorem aNG (l:List rF) (n:List UInt8) (hl:pS l):V1 l n=some (QY l n):=by
 unfold pS at hl;have h:=BF (f:=V0 l n) (l:=l) (fun x=>decide (x.1=n)) (fun k=>((l.getD k ([],[],())).2.1,true)) (fun i h=>by
  unfold V0;rw[aTD (sX h),aTD (rR h),xW (t:=tF) h,aTD (rR h),aTD (sC (by omega)),aT6,aTM h];rfl) (by
  unfold V0;rw[aTG (uM _)])
 unfold V1;rw[h,FD];rfl
theorem aGH (l:List rF) (n:List UInt8) (hl:pS l):GO l n=some (uA (fun k=>(k:Int)) (-1) (zC l n)):=by
 unfold pS at hl;have h:=BF (f:=Q1 l n) (l:=l) (fun x=>decide (x.1=n)) (fun k=>(k:Int)) (fun i h=>by
  unfold Q1;rw[aTD (sX h),aTD (rR h),xW (t:=tF) h,aTD (sC (by omega))]) (by
  unfold Q1;rw[aTG (uM _)])
 unfold GO MM;rw[h,FD];rfl
theorem a8m {l:List rF}{n:List UInt8}{k:Nat}(h:zC l n=some k):k<l.length:=by
 unfold zC at h;exact(aUf.1 h).1
theorem aNH (l:List rF) (n:List UInt8) (hl:pS l):I6 l n=some (QY l n):=by
 unfold I6;rw[aGH l n hl];unfold QY;cases h:zC l n with
 |none=>rfl
 |some k=>
  have hk:=a8m h;simp only[uA,aTC];rw[aTG (by simp),aTD (rR hk),xW (t:=tF) hk];simp only[uA,aT6,aTM hk];rfl
def EB (l:List rF) (n:List UInt8):Nat:=(l.findIdx? fun x=> !(Op.bytesLess x.1 n||decide (x.1=n))).getD l.length
def AU (l:List rF) (n v:List UInt8):List rF:=uA (fun k=>l.set k (n,v,())) (l.take (EB l n)++[(n,v,())]++l.drop (EB l n)) (zC l n)
theorem aGI (l:List rF) (n:List UInt8):EB l n<=l.length:=by
 unfold EB;cases h:l.findIdx? fun x=> !(Op.bytesLess x.1 n||decide (x.1=n)) with
 |none=>exact aTZ _
 |some k=>exact Nat.le_of_lt (aUf.1 h).1
theorem aNI (l:List rF) (n v:List UInt8):(AU l n v).length<=l.length+1:=by
 have:=aGI l n;unfold AU;cases zC l n with
 |none=>simp [uA];omega
 |some k=>simp [uA]
theorem aGJ {l:List rF}{n:List UInt8}{k:Nat}(h:zC l n=some k) (hk:k<l.length):l[k].1=n:=by
 unfold zC at h;have:=(aUf.1 h).2.1;simpa using this
theorem aGK (l:List rF) (n v:List UInt8) (hl:pS l):I9 l n v=some (AU l n v):=by
 have hl':=hl;unfold pS at hl';unfold I9 I2;rw[aTD (by omega)];show (GO ([]++l) n).bind _=_;rw[List.nil_append,aGH l n hl];unfold AU;cases h:zC l n with
 |some k=>
  have hk:=a8m h;simp only[uA,aTC];rw[aTD (by simp),aTD (rR hk),xW (t:=tF) hk,aUv];congr 2;exact Prod.ext (aGJ h hk) rfl
 |none=>
  simp only[uA,aTC];rw[aTG (by decide)];have h2:=BF (f:=Q2 l n) (l:=l) (fun x=> !(Op.bytesLess x.1 n||decide (x.1=n))) (fun k=>(k:Int)) (fun i h=>by
   unfold Q2;rw[aTD (sX h),aTD (rR h),xW (t:=tF) h,aTD (sC (by omega))]) (by
   unfold Q2;rw[aTG (uM _)])
  unfold MN;rw[h2,FD];unfold EB;cases h3:l.findIdx? fun x=> !(Op.bytesLess x.1 n||decide (x.1=n)) with
  |none=>
   simp only[uA,aTC];rw[aTD (by decide),aTD ⟨by omega,aUq _⟩,aTD (by simp;omega)];simp [BC,uA]
  |some k=>
   have hk:k<l.length:=(aUf.1 h3).1;simp only[uA,aTC];rw[aTG (by simp),aTD ⟨by omega,by omega⟩,aTD (by simp;omega)];simp [BC,uA]
theorem VZ {α:Type}{f:Int->Option (Int⊕Int)}{l:List α}(p:α->Bool)
  (hf: ∀(i:Nat) (h:i<l.length),f i=if p l[i]=true then some (.inl (i+1)) else some (.inr i)) (he:f l.length=some (.inr l.length)):
  ∀(n j:Nat),j+n=l.length->qB f j=some (((j+((l.drop j).findIdx? fun x=> !p x).getD n:Nat)):Int)
 |0,j,hj=>by
  have:j=l.length:=by omega
  subst this;rw[aUk,xV,he];simp
 |n+1,j,hj=>by
  have hlt:j<l.length:=by omega
  rw[xV,hf j hlt,aT2 hlt,aUI];by_cases hp:p l[j]=true
  ·rw[aTD hp,aTG (by simp [hp])];show qB f ((j:Int)+1)=_;rw[show ((j:Int)+1)=((j+1:Nat):Int) by omega,VZ p hf he n (j+1) (by omega)];cases(l.drop (j+1)).findIdx? fun x=> !p x with
   |none=>simp;omega
   |some k=>simp;omega
  ·rw[aTG hp,aTD (by simpa using hp)];simp
theorem aGL {α:Type}{f:Int->Option (Int⊕Int)}{l:List α}(p:α->Bool)
  (hf: ∀(i:Nat) (h:i<l.length),f i=if p l[i]=true then some (.inl (i+1)) else some (.inr i)) (he:f l.length=some (.inr l.length)):
  qB f 0=some (((l.findIdx? fun x=> !p x).getD l.length:Nat):Int):=by
 have:=VZ p hf he l.length 0 (by omega);simpa using this
theorem W3 {α:Type}{l:List α}{k:Nat}:pT l 0 (k:Int)=l.take k:=by unfold pT;simp
theorem FE {α:Type}{l:List α}{k:Nat}:pT l (k:Int) (l.length:Int)=l.drop k:=by
 unfold pT;rw[aUv,aUv,List.take_of_length_le];rw[aTR];exact aTZ _
theorem aGM (l:List rF) (n v:List UInt8) (hl:pS l):V3 l n v=some (AU l n v):=by
 have hl':=hl;unfold pS at hl';unfold V3;rw[aTD (by omega)];have h1:=BF (f:=V2 l n v) (l:=l) (fun x=>decide (x.1=n)) (fun k=>l.set k ((l.getD k ([],[],())).1,(v,(l.getD k ([],[],())).2.2))) (fun i h=>by
  unfold V2;rw[List.nil_append,aTD (sX h),aTD (rR h),xW (t:=tF) h,aTD (rR h),aTD (sC (by omega)),aT6,aTM h,aUv];rfl) (by
  unfold V2;rw[List.nil_append,aTG (uM _)])
 rw[h1];unfold AU;show rW (some (uA _ _ (zC l n))) _=_;cases h:zC l n with
 |some k=>
  have hk:=a8m h;simp only[uA,aT6,aTM hk];show some (l.set k _)=_;congr 2;exact Prod.ext (aGJ h hk) rfl
 |none=>
  show rH (qB (ME l n) 0) _=_;have h2:=aGL (f:=ME l n) (l:=l) (fun x=>Op.bytesLess x.1 n||decide (x.1=n)) (fun i h=>by
   unfold ME;rw[aTD (fun _=>rR h),xW (t:=tF) h,sX h,Bool.true_and,aTD (sC (by omega))]) (by
   unfold ME;have hF:decide ((l.length:Int)<(l.length:Int))=false:=by simp
   rw[hF,aTD (fun h=>by simp at h),aVx,aTG (by decide)])
  rw[show qB (ME l n) 0=some ((EB l n:Nat):Int) from h2];have hk:=aGI l n;unfold rH;rw[aTC,aTD ⟨aUq _,by omega,by omega⟩,W3,FE,aTD (by simp;omega),aTD (by simp;omega),aTD ⟨by omega,by omega,aUq _⟩,aTD (by simp;omega)];simp [uA]
def AB (n:Int):Prop:=0≤n∧n≤1114111∧(n<55296∨57343<n)
def w9 (n:Int):Bool:=(((decide ((0:Int)≤n))&&(decide (n≤(1114111:Int))))&&((decide (n<(55296:Int)))||(decide ((57343:Int)<n))))
theorem H0 (n:Int):w9 n=true↔AB n:=by
  unfold w9 AB;simp;omega
theorem W4 {n:Int}(h0:0≤n) (h1:n≤127):Lib.encodeRune n=s5 [n]:=by
  unfold Lib.encodeRune;rw[Lib.encodeRuneZ_one h0 h1];rfl
theorem W5 {n:Int}(h0:128≤n) (h1:n≤2047):Lib.encodeRune n=s5 [192+n/64,128+n%64]:=by
  unfold Lib.encodeRune;rw[Lib.encodeRuneZ_two h0 h1];rfl
theorem a8n {n:Int}(h:(2048≤n∧n<55296)∨(57343<n∧n≤65535)):Lib.encodeRune n=s5 [224+n/4096,128+n/64%64,128+n%64]:=by
  unfold Lib.encodeRune;rw[Lib.encodeRuneZ_three h];rfl
theorem aGN {n:Int}(h0:65536≤n) (h1:n≤1114111):Lib.encodeRune n=s5 [240+n/262144,128+n/4096%64,128+n/64%64,128+n%64]:=by
  unfold Lib.encodeRune;rw[Lib.encodeRuneZ_four h0 h1];rfl
theorem a8o {n:Int}(h:AB n):BG n=some (Lib.encodeRune n):=by
  obtain⟨h0,h1,hs⟩:=h;have w1:IntKind.i64.wrap (n/64)=n/64:=by rw[aUF];omega
  have w2:IntKind.i64.wrap (n/4096)=n/4096:=by rw[aUF];omega
  have w3:IntKind.i64.wrap (n/262144)=n/262144:=by rw[aUF];omega
  have m1:Int.tmod n 64=n%64:=aVu h0;have m2:Int.tmod (n/64) 64=n/64%64:=aVu (by omega);have m3:Int.tmod (n/4096) 64=n/4096%64:=aVu (by omega);unfold BG;simp only[Int.tdiv_eq_ediv_of_nonneg h0,w1,w2,w3,m1,m2,m3,aUT];by_cases c1:n<128
  ·rw[aTD (by simpa using c1),W4 h0 (by omega),show n%256=n by omega]
  · rw[aTG (by simpa using c1)]
    by_cases c2:n<2048
    ·rw[aTD (by simpa using c2),aTD (by unfold pE;omega),aTD (by unfold pE;omega),W5 (by omega) (by omega),show (192+n/64) %256=192+n/64 by omega,show (128+n%64) %256=128+n%64 by omega]
    · rw[aTG (by simpa using c2)]
      by_cases c3:n<65536
      ·rw[aTD (by simpa using c3),aTD (by unfold pE;omega),aTD (by unfold pE;omega),aTD (by unfold pE;omega),a8n (by omega),show (224+n/4096) %256=224+n/4096 by omega,show (128+n/64%64) %256=128+n/64%64 by omega,show (128+n%64) %256=128+n%64 by omega]
      ·rw[aTG (by simpa using c3),aTD (by unfold pE;omega),aTD (by unfold pE;omega),aTD (by unfold pE;omega),aTD (by unfold pE;omega),aGN (by omega) (by omega),show (240+n/262144) %256=240+n/262144 by omega,show (128+n/4096%64) %256=128+n/4096%64 by omega,show (128+n/64%64) %256=128+n/64%64 by omega,show (128+n%64) %256=128+n%64 by omega]
theorem a8p {n:Int}{k:Int}{j:Nat}(hj:k.toNat=j) (h32:j≤32):wZ .i32 n k=n/2^j:=by
  unfold wZ;rw[hj,show min j IntKind.i32.bits=j from Nat.min_eq_left h32,Int.fdiv_eq_ediv_of_nonneg];exact Int.pow_nonneg (by decide)
theorem aNJ {n:Int}(p:List Int) (h:AB n) (hp:pS p):I8 p n=some (p++Lib.encodeRuneZ n):=by
  obtain⟨h0,h1,hs⟩:=h;unfold pS at hp;have u:IntKind.u32.wrap n=n:=by rw[IntKind.wrap_u32];omega
  have s6:wZ .i32 n 6=n/64:=a8p (j:=6) rfl (by decide);have s12:wZ .i32 n 12=n/4096:=a8p (j:=12) rfl (by decide);have s18:wZ .i32 n 18=n/262144:=a8p (j:=18) rfl (by decide)
  have b0:bits .or .u8 128 (bits .and .u8 (n%256) 63)=128+n%64:=by
    rw[u8_and63 (x:=n%256) (by omega) (by omega),show n%256%64=n%64 by omega,u8_or128 (y:=n%64) (by omega) (by omega)]
  have b1:bits .or .u8 128 (bits .and .u8 (n/64%256) 63)=128+n/64%64:=by
    rw[u8_and63 (x:=n/64%256) (by omega) (by omega),show n/64%256%64=n/64%64 by omega,u8_or128 (y:=n/64%64) (by omega) (by omega)]
  have b2:bits .or .u8 128 (bits .and .u8 (n/4096%256) 63)=128+n/4096%64:=by
    rw[u8_and63 (x:=n/4096%256) (by omega) (by omega),show n/4096%256%64=n/4096%64 by omega,u8_or128 (y:=n/4096%64) (by omega) (by omega)]
  unfold I8;rw[u];by_cases c1:n≤127
  ·rw[aTD (by simpa using c1),aTD (by simp;omega),Lib.encodeRuneZ_one h0 c1,aUT,show n%256=n by omega]
  · rw[aTG (by simpa using c1)]
    unfold K2;simp only[u,s6,s12,s18,aUT,b0,b1,b2];by_cases c2:n≤2047
    · rw[aTD (by simpa using c2),aTD (by simp;omega),Lib.encodeRuneZ_two (by omega) c2,show n/64%256=n/64 by omega,u8_or192 (y:=n/64) (by omega) (by omega)]
      rfl
    · rw[aTG (by simpa using c2)]
      by_cases c3:n≤65535
      · have hx:(if decide (n<55296)=true then some (decide (n<55296)) else some ((decide (57343<n))&&(decide (n≤65535))))=some true:=by
          by_cases c:n<55296
          ·rw[aTD (by simpa using c)];simp [c]
          ·rw[aTG (by simpa using c)];simp;omega
        rw[hx];simp only[rH,aTC];rw[aTD trivial,aTD (by simp;omega),Lib.encodeRuneZ_three (by omega),show n/4096%256=n/4096 by omega,u8_or224 (y:=n/4096) (by omega) (by omega)];rfl
      · have hx:(if decide (n<55296)=true then some (decide (n<55296)) else some ((decide (57343<n))&&(decide (n≤65535))))=some false:=by
          rw[aTG (by simp;omega)];simp;omega
        rw[hx];simp only[rH,aTC];rw[aTG (by decide),aTD (by simp;omega),aTD (by simp;omega),Lib.encodeRuneZ_four (by omega) h1,show n/262144%256=n/262144 by omega,u8_or240 (y:=n/262144) (by omega) (by omega)];rfl
theorem aGO (n:Int):(Lib.encodeRuneZ n).length≤4:=by
  unfold Lib.encodeRuneZ
  repeat' split
  all_goals simp
theorem aGP {n:Int}(p:List Int) (h:AB n) (hp:pS p): ∃k,F9 (p,()) n=some (k,p++Lib.encodeRuneZ n):=by
  have h4:=aGO n;unfold pS at hp;unfold F9;rw[aNJ p h hp];simp only[aTC];rw[aTD (by unfold pE;simp;omega)];exact⟨_,rfl⟩
theorem aNK (n:Int):QN [n] (0,[])=some (.inl (1,if w9 n=true then Lib.encodeRuneZ n else Lib.encodeRuneZ 65533)):=by
  unfold QN;have hn:pU (.int .i64) [n] 0=n:=rfl;dsimp only;rw[aTD (by simp),aTD ⟨aUq _,by simp⟩];simp only[hn];by_cases hs:w9 n=true
  · have hsc:=(H0 n).1 hs
    obtain⟨k,hk⟩:=aGP (n:=n) [] hsc (by unfold pS;simp)
    have wn:IntKind.i32.wrap n=n:=by
      obtain⟨a,b,c⟩:=hsc;rw[IntKind.wrap_i32];omega
    rw[aTD hs];unfold w9 at hs;rw[aTG (by rw[hs];decide),wn,hk];simp only[aTC,List.nil_append];rw[aTD (by unfold pE;omega)];rfl
  · rw[aTG hs]
    unfold w9 at hs;obtain⟨k,hk⟩:=aGP (n:=65533) [] (by unfold AB;omega) (by unfold pS;simp);rw[aTD (by simp only[aT8] at hs⊢;simpa using hs),show IntKind.i32.wrap 65533=65533 from rfl,hk];simp only[aTC,List.nil_append];rw[aTD (by unfold pE;omega)];rfl
theorem aNL (n:Int):II n=some (if w9 n=true then Lib.encodeRune n else Lib.encodeRune 65533):=by
  unfold II N0;rw[EU (aNK n),vA (r:=if w9 n=true then Lib.encodeRuneZ n else Lib.encodeRuneZ 65533) (by unfold QN;simp)];simp only[rH,aTC];by_cases hs:w9 n=true
  ·rw[aTD hs,aTD hs];rfl
  ·rw[aTG hs,aTG hs];rfl
theorem aGQ {l:List UInt8}{i:Nat}(h:i<l.length):pR l (i:Int)=((l.getD i 0).toNat:Int):=by
  rw[yD h,aT6,aTM h];rfl
theorem aNM {s:List UInt8}{x n:Int}{i:Nat}(h:i<s.length) (hn:(i:Int)<n) (hx:0≤x) (hx1:x≤1000000) (hi:i≤10):DT s n (x,(i:Int))=
    if (s.getD i 0).toNat/64=2 then some (.inl (64*x+(s.getD i 0).toNat-128,((i+1:Nat):Int))) else some (.inr (.inr (65533,1))):=by
  have hb:=(s.getD i 0).toNat_lt;have hy:=aGQ h;generalize (s.getD i 0).toNat=B at hb hy⊢;unfold DT;dsimp only;rw[aTD (by simpa using hn),aTD (rR h),aTD (fun _=>rR h),hy];by_cases hc:B/64=2
  · rw[aTG (by simp;omega),aTD hc,aTD (by unfold pE;omega),aTD (rR h),show IntKind.i64.wrap (B:Int)=(B:Int) by rw[aUF];omega,
      aTD (by unfold pE;omega),aTD (by unfold pE;omega),aTD (by unfold pE;omega)]
    rfl
  ·rw[aTD (by simp;omega),aTG hc]
theorem a8q {s:List UInt8}{x n i:Int}(h:n≤i):DT s n (x,i)=some (.inr (.inl x)):=by
  unfold DT;dsimp only;rw[aTG (by simpa using h)]
def t8 (s:List UInt8) (i:Nat):Bool:=decide ((s.getD i 0).toNat/64=2)
def xG (s:List UInt8) (i:Nat) (x:Int):Int:=64*x+(s.getD i 0).toNat-128
theorem a8r {s:List UInt8}{i:Nat}{x m:Int}(h0:0≤x) (hm:x≤m) (hc:t8 s i=true):0≤xG s i x∧xG s i x≤64*m+63:=by
  have hb:=(s.getD i 0).toNat_lt;unfold t8 at hc;unfold xG;simp only[aTK] at hc;omega
theorem NA {s:List UInt8}{x n:Int}{i:Nat}(h:i<s.length) (hn:(i:Int)<n) (hx:0≤x) (hx1:x≤1000000) (hi:i≤10):
    qB (DT s n) (x,(i:Int))=if t8 s i=true then qB (DT s n) (xG s i x,((i+1:Nat):Int)) else some (.inr (65533,1)):=by
  rw[xV,aNM h hn hx hx1 hi];unfold t8 xG;simp only[aTK];by_cases hc:(s.getD i 0).toNat/64=2
  ·rw[aTD hc,aTD hc];rfl
  ·rw[aTG hc,aTG hc];rfl
theorem aNN {s:List UInt8}{x:Int}(h:1<s.length) (hx:0≤x) (hx1:x≤31):qB (DT s 2) (x,1)=some (if t8 s 1=true then .inl (xG s 1 x) else .inr (65533,1)):=by
  show qB _ (x,((1:Nat):Int))=_;rw[NA h (by decide) hx (by omega) (by decide)];by_cases c1:t8 s 1=true
  ·rw[aTD c1,aTD c1,vA (a8q (by decide))]
  ·rw[aTG c1,aTG c1]
theorem aNO {s:List UInt8}{x:Int}(h:2<s.length) (hx:0≤x) (hx1:x≤15):qB (DT s 3) (x,1)=some (if (t8 s 1&&t8 s 2)=true then .inl (xG s 2 (xG s 1 x)) else .inr (65533,1)):=by
  show qB _ (x,((1:Nat):Int))=_;rw[NA (by omega) (by decide) hx (by omega) (by decide)];by_cases c1:t8 s 1=true
  · have b1:=a8r hx hx1 c1
    rw[aTD c1,NA h (by decide) b1.1 (by omega) (by decide),c1,Bool.true_and];by_cases c2:t8 s 2=true
    ·rw[aTD c2,aTD c2,vA (a8q (by decide))]
    ·rw[aTG c2,aTG c2]
  ·rw[aTG c1,aTG (by simp [c1])]
theorem aNP {s:List UInt8}{x:Int}(h:3<s.length) (hx:0≤x) (hx1:x≤7):qB (DT s 4) (x,1)=some (if (t8 s 1&&t8 s 2&&t8 s 3)=true then .inl (xG s 3 (xG s 2 (xG s 1 x))) else .inr (65533,1)):=by
  show qB _ (x,((1:Nat):Int))=_;rw[NA (by omega) (by decide) hx (by omega) (by decide)];by_cases c1:t8 s 1=true
  · have b1:=a8r hx hx1 c1
    rw[aTD c1,NA (by omega) (by decide) b1.1 (by omega) (by decide),c1,Bool.true_and];by_cases c2:t8 s 2=true
    · have b2:=a8r b1.1 b1.2 c2
      rw[aTD c2,NA h (by decide) b2.1 (by omega) (by decide),c2,Bool.true_and];by_cases c3:t8 s 3=true
      ·rw[aTD c3,aTD c3,vA (a8q (by decide))]
      ·rw[aTG c3,aTG c3]
    ·rw[aTG c2,aTG (by simp [c2])]
  ·rw[aTG c1,aTG (by simp [c1])]
def wA (s:List UInt8) (x:Int) (n:Nat):Int×Int:=if w9 x=true∧Lib.encodeRune x=s.take n then(x,n) else(65533,1)
theorem a8s {s:List UInt8}{x:Int}{n:Nat}(hn:n≤s.length):
    (if (((!(((decide ((0:Int)≤x))&&(decide (x≤(1114111:Int))))&&((decide (x<(55296:Int)))||(decide ((57343:Int)<x)))))==false)=true→((BG x)).isSome=true) then
    if (((!(((decide ((0:Int)≤x))&&(decide (x≤(1114111:Int))))&&((decide (x<(55296:Int)))||(decide ((57343:Int)<x)))))==false)=true→0≤(0:Int)∧(0:Int)≤(n:Int)∧(n:Int)≤(s.length:Int)) then
     if ((!(((decide ((0:Int)≤x))&&(decide (x≤(1114111:Int))))&&((decide (x<(55296:Int)))||(decide ((57343:Int)<x)))))||(!decide ((val (BG x))=(pT s (0:Int) (n:Int)))))=true then
      some (((65533:Int),(1:Int)))
     else
      some ((x,(n:Int)))
    else none
   else none)=some (wA s x n):=by
  rw[W3];simp only[show (((decide ((0:Int)≤x))&&(decide (x≤(1114111:Int))))&&((decide (x<(55296:Int)))||(decide ((57343:Int)<x))))=w9 x from rfl]
  unfold wA;by_cases hs:w9 x=true
  · have ho:=a8o ((H0 x).1 hs)
    rw[aTD (fun _=>by rw[ho];rfl),aTD (fun _=>⟨aUq _,by omega,by omega⟩),ho,hs];by_cases he:Lib.encodeRune x=s.take n
    ·rw[aTG (by simp [val,he]),aTD ⟨rfl,he⟩]
    ·rw[aTD (by simp [val,he]),aTG (fun h=>he h.2)]
  · have hs':w9 x=false:=by simpa using hs
    rw[aTD (fun h=>by simp [hs'] at h),aTD (fun h=>by simp [hs'] at h),aTD (by simp [hs']),aTG (fun h=>hs h.1)]
theorem H4 (z:Int) (l:List Int) (x:UInt8) (h:z=(x.toNat:Int)):s5 (z::l)=x::s5 l:=by
  show UInt8.ofNat z.toNat::s5 l=_;rw[h];simp
theorem a8t:s5 []=[]:=rfl
theorem NB (l:List Int):(s5 l).length=l.length:=by simp [s5]
theorem aNQ {s:List UInt8}(hl:1<s.length) (h0:192≤(s.getD 0 0).toNat) (h0':(s.getD 0 0).toNat<224) (hc:t8 s 1=true):
    wA s (xG s 1 ((s.getD 0 0).toNat-192)) 2=(((Lib.decodeL s).1:Int),((Lib.decodeL s).2:Int)):=by
  unfold t8 at hc;simp only[aTK] at hc;have k0:=(s.getD 0 0).toNat_lt;have k1:=(s.getD 1 0).toNat_lt
  have hd:Lib.decodeL s=if (s.getD 0 0).toNat%32*64+(s.getD 1 0).toNat%64≥128 then((s.getD 0 0).toNat%32*64+(s.getD 1 0).toNat%64,2) else(65533,1):=by
    rw[Lib.decodeL_N];unfold Lib.decodeN;rw[aTG (by omega),aTD ⟨by omega,by omega,hc⟩]
  rw[hd];unfold wA xG;rw[Lib.takeB s hl];have hx:w9 (64*((s.getD 0 0).toNat-192)+(s.getD 1 0).toNat-128)=true:=(H0 _).2 (by unfold AB;omega);rw[hx];by_cases hv:(s.getD 0 0).toNat%32*64+(s.getD 1 0).toNat%64≥128
  · rw[aTD hv,aTD ⟨rfl,by
      rw[W5 (by omega) (by omega),H4 _ _ (s.getD 0 0) (by omega),H4 _ _ (s.getD 1 0) (by omega),a8t]⟩]
    exact Prod.ext (by show _=(((_:Nat)):Int);omega) rfl
  · rw[aTG hv,aTG (fun h=>by
      have h2:=aUi List.length h.2;rw[W4 (by omega) (by omega),NB] at h2;simp at h2)]
    rfl
theorem aNR {s:List UInt8}(hl:2<s.length) (h0:224≤(s.getD 0 0).toNat) (h0':(s.getD 0 0).toNat<240) (hc:t8 s 1=true) (hc2:t8 s 2=true):
    wA s (xG s 2 (xG s 1 ((s.getD 0 0).toNat-224))) 3=(((Lib.decodeL s).1:Int),((Lib.decodeL s).2:Int)):=by
  unfold t8 at hc hc2;simp only[aTK] at hc hc2;have k0:=(s.getD 0 0).toNat_lt;have k1:=(s.getD 1 0).toNat_lt;have k2:=(s.getD 2 0).toNat_lt;obtain⟨V,hV⟩: ∃V,(s.getD 0 0).toNat%16*4096+(s.getD 1 0).toNat%64*64+(s.getD 2 0).toNat%64=V:=⟨_,rfl⟩
  have hd:Lib.decodeL s=if V≥2048∧(V<55296∨(57344≤V∧V≤1114111)) then(V,3) else(65533,1):=by
    rw[Lib.decodeL_N];unfold Lib.decodeN;rw[aTG (by omega),aTG (by omega),aTD ⟨by omega,⟨by omega,hc⟩,by omega,hc2⟩,hV]
  rw[hd];unfold wA xG;rw[Lib.takeC s hl];generalize hX:64*(64*(((s.getD 0 0).toNat:Int)-224)+(s.getD 1 0).toNat-128)+(s.getD 2 0).toNat-128=X;have hXV:X=(V:Int):=by omega
  by_cases hv:V≥2048∧(V<55296∨(57344≤V∧V≤1114111))
  · rw[aTD hv,aTD ⟨(H0 _).2 (by unfold AB;omega),by
      rw[a8n (by omega),H4 _ _ (s.getD 0 0) (by omega),H4 _ _ (s.getD 1 0) (by omega),H4 _ _ (s.getD 2 0) (by omega),a8t]⟩]
    exact Prod.ext hXV rfl
  · rw[aTG hv,aTG (fun h=>by
      have hs:=(H0 _).1 h.1;unfold AB at hs;have hlt:X<2048:=by omega
      have h2:=aUi List.length h.2;by_cases h7:X≤127
      ·rw[W4 (by omega) h7,NB] at h2;simp at h2
      ·rw[W5 (by omega) (by omega),NB] at h2;simp at h2)]
    rfl
theorem aNS {s:List UInt8}(hl:3<s.length) (h0:240≤(s.getD 0 0).toNat) (h0':(s.getD 0 0).toNat<248) (hc:t8 s 1=true) (hc2:t8 s 2=true) (hc3:t8 s 3=true):
    wA s (xG s 3 (xG s 2 (xG s 1 ((s.getD 0 0).toNat-240)))) 4=(((Lib.decodeL s).1:Int),((Lib.decodeL s).2:Int)):=by
  unfold t8 at hc hc2 hc3;simp only[aTK] at hc hc2 hc3;have k0:=(s.getD 0 0).toNat_lt;have k1:=(s.getD 1 0).toNat_lt;have k2:=(s.getD 2 0).toNat_lt;have k3:=(s.getD 3 0).toNat_lt;obtain⟨V,hV⟩: ∃V,(s.getD 0 0).toNat%8*262144+(s.getD 1 0).toNat%64*4096+(s.getD 2 0).toNat%64*64+(s.getD 3 0).toNat%64=V:=⟨_,rfl⟩
  have hd:Lib.decodeL s=if V≥65536∧(V<55296∨(57344≤V∧V≤1114111)) then(V,4) else(65533,1):=by
    rw[Lib.decodeL_N];unfold Lib.decodeN;rw[aTG (by omega),aTG (by omega),aTG (by omega),aTD ⟨by omega,⟨by omega,hc⟩,⟨by omega,hc2⟩,by omega,hc3⟩,hV]
  rw[hd];unfold wA xG;rw[Lib.takeD s hl];generalize hX:64*(64*(64*(((s.getD 0 0).toNat:Int)-240)+(s.getD 1 0).toNat-128)+(s.getD 2 0).toNat-128)+(s.getD 3 0).toNat-128=X;have hXV:X=(V:Int):=by omega
  by_cases hv:V≥65536∧(V<55296∨(57344≤V∧V≤1114111))
  · rw[aTD hv,aTD ⟨(H0 _).2 (by unfold AB;omega),by
      rw[aGN (by omega) (by omega),H4 _ _ (s.getD 0 0) (by omega),H4 _ _ (s.getD 1 0) (by omega),H4 _ _ (s.getD 2 0) (by omega),H4 _ _ (s.getD 3 0) (by omega),a8t]⟩]
    exact Prod.ext hXV rfl
  · rw[aTG hv,aTG (fun h=>by
      have hs:=(H0 _).1 h.1;unfold AB at hs;have hlt:X<65536:=by omega
      have h2:=aUi List.length h.2;by_cases h7:X≤127
      ·rw[W4 (by omega) h7,NB] at h2;simp at h2
      · by_cases h8:X≤2047
        ·rw[W5 (by omega) (by omega),NB] at h2;simp at h2
        ·rw[a8n (by omega),NB] at h2;simp at h2)]
    rfl
theorem KN {s:List UInt8}(h: ¬(s.getD 0 0).toNat<128) (h2: ¬((s.getD 0 0).toNat/32=6∧1<s.length∧t8 s 1=true)) (h3: ¬((s.getD 0 0).toNat/16=14∧2<s.length∧(t8 s 1&&t8 s 2)=true))
    (h4: ¬((s.getD 0 0).toNat/8=30∧3<s.length∧(t8 s 1&&t8 s 2&&t8 s 3)=true)):Lib.decodeL s=(65533,1):=by
  unfold t8 at h2 h3 h4;simp only[aTL,aTK] at h2 h3 h4;rw[Lib.decodeL_N];unfold Lib.decodeN;rw[aTG h,aTG (fun⟨a,b,c⟩=>h2 ⟨a,b,c⟩),aTG (fun⟨a,⟨b,c⟩,d,e⟩=>h3 ⟨a,d,c,e⟩),aTG (fun⟨a,⟨b,c⟩,⟨d,e⟩,f,g⟩=>h4 ⟨a,f,⟨c,e⟩,g⟩)]
theorem aNT {s:List UInt8}(hne:s≠[]):I1 s=some (((Lib.decodeL s).1:Int),((Lib.decodeL s).2:Int)):=by
  have hl:0<s.length:=aVC.2 hne;have hy:pR s 0=((s.getD 0 0).toNat:Int):=aGQ (i:=0) hl;have k0:=(s.getD 0 0).toNat_lt;have hw:IntKind.i64.wrap ((s.getD 0 0).toNat:Int)=((s.getD 0 0).toNat:Int):=by rw[aUF];omega
  unfold I1;rw[aTD ⟨aUq _,by omega⟩,hy,hw];by_cases c1:(s.getD 0 0).toNat<128
  · rw[aTD (by simp only[aTK];omega)]
    rw[Lib.decodeL_N];unfold Lib.decodeN;rw[aTD c1];rfl
  · rw[aTG (by simp only[aTK];omega)]
    by_cases c2:192≤(s.getD 0 0).toNat∧(s.getD 0 0).toNat<224
    · rw[aTD (by simp only[aTL,aTK];omega),aTD (by unfold pE;omega)]
      show (if decide ((s.length:Int)<2)=true then _ else _)=_;by_cases l2:1<s.length
      · rw[aTG (by simp only[aTK];omega),aNN l2 (by omega) (by omega)]
        by_cases hc:t8 s 1=true
        · rw[aTD hc,←aNQ l2 c2.1 c2.2 hc,←a8s (s:=s) (n:=2) (by omega)]
          rfl
        · rw[aTG hc,KN c1 (fun h=>hc h.2.2) (fun h=>by omega) (fun h=>by omega)]
          rfl
      · rw[aTD (by simp only[aTK];omega),KN c1 (fun h=>l2 h.2.1) (fun h=>by omega) (fun h=>by omega)]
        rfl
    · rw[aTG (by simp only[aTL,aTK];omega)]
      by_cases c3:224≤(s.getD 0 0).toNat∧(s.getD 0 0).toNat<240
      · rw[aTD (by simp only[aTL,aTK];omega),aTD (by unfold pE;omega)]
        show (if decide ((s.length:Int)<3)=true then _ else _)=_;by_cases l2:2<s.length
        · rw[aTG (by simp only[aTK];omega),aNO l2 (by omega) (by omega)]
          by_cases hc:(t8 s 1&&t8 s 2)=true
          · have hc':=aTL _ _▸hc
            rw[aTD hc,←aNR l2 c3.1 c3.2 hc'.1 hc'.2,←a8s (s:=s) (n:=3) (by omega)];rfl
          · rw[aTG hc,KN c1 (fun h=>by omega) (fun h=>hc h.2.2) (fun h=>by omega)]
            rfl
        · rw[aTD (by simp only[aTK];omega),KN c1 (fun h=>by omega) (fun h=>l2 h.2.1) (fun h=>by omega)]
          rfl
      · rw[aTG (by simp only[aTL,aTK];omega)]
        by_cases c4:240≤(s.getD 0 0).toNat∧(s.getD 0 0).toNat<248
        · rw[aTD (by simp only[aTL,aTK];omega),aTD (by unfold pE;omega)]
          show (if decide ((s.length:Int)<4)=true then _ else _)=_;by_cases l2:3<s.length
          · rw[aTG (by simp only[aTK];omega),aNP l2 (by omega) (by omega)]
            by_cases hc:(t8 s 1&&t8 s 2&&t8 s 3)=true
            · have hc':=aTL _ _▸hc
              have hc'':=aTL _ _▸hc'.1;rw[aTD hc,←aNS l2 c4.1 c4.2 hc''.1 hc''.2 hc'.2,←a8s (s:=s) (n:=4) (by omega)];rfl
            · rw[aTG hc,KN c1 (fun h=>by omega) (fun h=>by omega) (fun h=>hc h.2.2)]
              rfl
          · rw[aTD (by simp only[aTK];omega),KN c1 (fun h=>by omega) (fun h=>by omega) (fun h=>l2 h.2.1)]
            rfl
        · rw[aTG (by simp only[aTL,aTK];omega),KN c1 (fun h=>by omega) (fun h=>by omega) (fun h=>by omega)]
          rfl
def yM:Nat->List UInt8->List Int
 |0,_=>[]
 |n+1,s=>if s=[] then[] else((Lib.decodeL s).1:Int)::yM n (s.drop (Lib.decodeL s).2)
theorem aGR: ∀(n:Nat) (s:List UInt8),(yM n s).length<=n
 |0,_=>aTZ _
 |n+1,s=>by
  unfold yM;split
  ·simp
  ·simp only[aTJ];have:=aGR n (s.drop (Lib.decodeL s).2);omega
theorem aNU (s:List UInt8):AB ((Lib.decodeL s).1:Int):=by
 have k0:=(s.getD 0 0).toNat_lt;rw[Lib.decodeL_N];rcases Lib.decodeN_shape s.length (s.getD 0 0).toNat (s.getD 1 0).toNat (s.getD 2 0).toNat (s.getD 3 0).toNat with⟨c,e⟩ |⟨c1,c2,c3,cv,e⟩ |⟨c1,c2,c3,c4,cv,cs,e⟩ |⟨c1,c2,c3,c4,c5,cv,cw,e⟩ |e
 all_goals (rw[e];unfold AB;dsimp only;omega)
theorem aGS: ∀(n:Nat) (s:List UInt8) (out:List Int),s.length<=n->out.length+s.length<=4000000000->qB MT (s,out)=some (out++yM n s)
 |n,[],out,_,_=>by
  rw[vA (r:=out) (by unfold MT;simp)];cases n<;>simp [yM]
 |0,b::t,_,h,_=>by simp at h
 |n+1,b::t,out,h,ho=>by
  have hne:(b::t)≠[]:=by simp
  have hle:=Lib.decodeL_le (b::t) hne;have hw:=Lib.decodeL_width (b::t);have hstep:MT (b::t,out)=some (.inl ((b::t).drop (Lib.decodeL (b::t)).2,out++[((Lib.decodeL (b::t)).1:Int)])):=by
   unfold MT;dsimp only;rw[aTD (by simp),aNT hne];simp only[aTC];rw[aTD (by simp only[aTJ,aT0] at ho⊢;omega),aTD ⟨by omega,by omega,aUq _⟩,FE]
  rw[EU hstep,aGS n _ _ (by rw[aTR];simp only[aTJ] at h hle⊢;omega) (by rw[aTR,aTH];simp only[aTJ,aT0] at ho hle⊢;omega)];rw[show yM (n+1) (b::t)=((Lib.decodeL (b::t)).1:Int)::yM n ((b::t).drop (Lib.decodeL (b::t)).2) by rw[yM,aTG hne],aTN];rfl
def W6 (s:List UInt8):List Int:=yM s.length s
theorem aNV (s:List UInt8) (hs:pS s):I4 s=some (W6 s):=by
 unfold pS at hs;unfold I4;rw[aGS s.length s [] (aTZ _) (by simpa using hs)];rfl
theorem aGT: ∀(n:Nat) (s:List UInt8),∀x∈yM n s,AB x
 |0,_,_,h=>by cases h
 |n+1,s,x,h=>by
  unfold yM at h;split at h
  ·cases h
  ·rcases aTW.1 h with h|h
   ·rw[h];exact aNU s
   ·exact aGT n _ x h
def IM (l:List Int):List UInt8:=(l.map Lib.encodeRune).flatten
theorem a8u (n:Int):(Lib.encodeRune n).length<=4:=by
 unfold Lib.encodeRune;rw[aVJ];exact aGO n
theorem aGU (l:List Int) (hsc: ∀x∈l,AB x) (hl:pS l): ∀(n j:Nat) (s:List UInt8),j+n=l.length->s.length+4*n<=10000000000000->qB (MS l) (s,(j:Int))=some (s++IM (l.drop j))
 |0,j,s,hj,_=>by
  have:j=l.length:=by omega
  subst this;rw[vA (r:=s) (by unfold MS;simp),aUk];simp [IM]
 |n+1,j,s,hj,hs=>by
  have hlt:j<l.length:=by omega
  unfold pS at hl;have hx:=hsc l[j] (aUB hlt);have h4:=a8u l[j];have hstep:MS l (s,(j:Int))=some (.inl (s++Lib.encodeRune l[j],((j+1:Nat):Int))):=by
   unfold MS;dsimp only;rw[aTD (sX hlt),aTD (rR hlt),xW (t:= .int .i64) hlt];have hb:=(H0 l[j]).2 hx;unfold w9 at hb;rw[aTD hb,aTD (rR hlt),a8o hx];simp only[aTC];rw[aTD (by rw[aTH];omega),aTD (sC (by omega))];rfl
  rw[EU hstep,aGU l hsc hl n (j+1) _ (by omega) (by rw[aTH];omega),aT2 hlt,aTN];rfl
theorem aNW (l:List Int) (hsc: ∀x∈l,AB x) (hl:pS l):KA l=some (IM l):=by
 have hl':=hl;unfold pS at hl';unfold KA;rw[show ((0:Int))=((0:Nat):Int) from rfl,aGU l hsc hl l.length 0 [] (by omega) (by simp;omega)];rfl
theorem aGV: ∀(n:Nat) (s:List UInt8),s.length<=n->s.length<=(IM (yM n s)).length/\(IM (yM n s)=s↔Lib.validD s=true)
 |n,[],_=>by
  have:yM n []=[]:=by cases n<;>simp [yM]
  rw[this];simp [IM,Lib.validD_nil]
 |0,b::t,h=>by simp at h
 |n+1,b::t,h=>by
  have hne:(b::t)≠[]:=by simp
  have hle:=Lib.decodeL_le (b::t) hne;have hw:=Lib.decodeL_width (b::t);obtain⟨ih1,ih2⟩:=aGV n ((b::t).drop (Lib.decodeL (b::t)).2) (by rw[aTR];simp only[aTJ] at h⊢;omega);have hr:IM (yM (n+1) (b::t))=Lib.encodeRune ((Lib.decodeL (b::t)).1:Int)++IM (yM n ((b::t).drop (Lib.decodeL (b::t)).2)):=by
   rw[yM,aTG hne];rfl
  rw[hr,Lib.validD_step _ hne];rw[aTR] at ih1;by_cases hv:(Lib.decodeL (b::t)).1=65533/\(Lib.decodeL (b::t)).2=1
  ·rw[aTD hv,hv.1];have e3:(Lib.encodeRune ((65533:Nat):Int)).length=3:=rfl;rw[hv.2] at ih1⊢;refine⟨by rw[aTH,e3];omega,fun he=> ?_,fun he=>by cases he⟩;have:=aUi List.length he;rw[aTH,e3] at this;omega
  ·have he:=Lib.encode_decode (b::t) hne hv;rw[aTG hv,he];refine⟨by rw[aTH,aT5];omega,?_⟩;rw[<-ih2];constructor
   ·intro h1;exact List.append_cancel_left (h1.trans (aU3 _ _).symm)
   ·intro h1;rw[h1,aU3]
theorem aNX (s:List UInt8) (hs:pS s):tM s=some (Lib.validD s):=by
 have hl:pS (W6 s):=by
  have:=aGR s.length s;unfold pS W6 at*;omega
 unfold tM;rw[aNV s hs];simp only[aTC];rw[aNW (W6 s) (fun x hx=>aGT _ _ x hx) hl];simp only[aTC];congr 1;have:=(aGV s.length s (aTZ _)).2;rw[aUH,aTK];exact this
def sA (s:List UInt8):Bool:=decide ((s.length:Int)<=4000)&&Lib.validD s
theorem NC (s:List UInt8) (hs:pS s):E3 s=some ()/\((decide ((s.length:Int)<=4000))&&val (tM s))=sA s:=by
 unfold E3;rw[aNX s hs];exact⟨aTD (fun _=>rfl),rfl⟩
theorem ND (s:List UInt8) (hs:pS s):DY s=some ():=by
 unfold pS at hs;unfold DY PX;rw[aTD (fun _=>by rw[aTD (by omega)];rfl)]
theorem wB {p:Prop}{α:Type}{v:α}:p->(some v).isSome=true:=fun _=>rfl
theorem QZ {ρ:Type}{f:Int->Option (Int⊕(Unit⊕ρ))}{n:Nat}(p:Nat->Bool) (g:Nat->ρ)
  (hf: ∀(i:Nat),i<n->f i=if p i=true then some (.inr (.inr (g i))) else some (.inl (i+1)))
  (he:f n=some (.inr (.inl ()))):qB f 0=some (uA (fun k=> .inr (g k)) (.inl ()) ((List.range n).findIdx? p)):=by
 refine BF (l:=List.range n) p g (fun i h=> ?_) (by rw[List.length_range];exact he);have hi:i<n:=by rw[List.length_range] at h;exact h
 rw[List.getElem_range];exact hf i hi
theorem a8v (a b:List UInt8):(!Op.bytesLess a b)=(Op.bytesLess b a||decide (b=a)):=by
 rw[bytesLess_eq,bytesLess_eq,aUH];simp only[aT8,aUh,aUt,aTK];constructor
 ·intro h;exact(List.le_iff_lt_or_eq.1 (List.not_lt.1 h))
 ·rintro(h|h)
  ·exact List.lt_asymm h
  ·rw[h];exact List.lt_irrefl _
theorem R0 {n:Nat}{p:Nat->Bool}{b:Bool}:rW (some (uA (fun _=>Sum.inr false) (Sum.inl ()) ((List.range n).findIdx? p))) (fun _:Unit=>some b)=some (!((List.range n).any p)&&b):=by
 rw[IL];cases(List.range n).any p<;>rfl
def vR (l:List (List UInt8)):Bool:=decide ((l.length:Int)<=20)&& !(l.any fun x=> !sA x)
theorem aNY {α:Type}{l:List α}{p:α->Bool}{b:Bool}:rW (some (uA (fun _=>Sum.inr false) (Sum.inl ()) (l.findIdx? p))) (fun _:Unit=>some b)=some (!(l.any p)&&b):=by
 rw[IL];cases l.any p<;>rfl
theorem aGW (l:List (List UInt8)) (hl:pS l) (hx: ∀x∈l,pS x):AO l=some (vR l):=by
 unfold pS at hl;have h:=BF (f:=QK l) (l:=l) (fun x=> !sA x) (fun _=>false) (fun i h=>by
  obtain⟨h1,h2⟩:=NC l[i] (hx _ (aUB h));unfold QK;rw[aTD (sX h),aTD (rR h),xW (t:= .str) h,h1,aTC,h2,aTD (sC (by omega))]) (by
  unfold QK;rw[aTG (uM _)])
 unfold AO;rw[h,aNY,vR,Bool.and_comm]
theorem aNZ (l:List (List UInt8)) (hl:pS l) (hx: ∀x∈l,pS x):BJ l=some (l.any fun x=> !sA x):=by
 unfold pS at hl;have h:=BF (f:=QH l) (l:=l) (fun x=> !sA x) (fun k=>(k:Int)) (fun i h=>by
  have h1:=ND l[i] (hx _ (aUB h));unfold QH QE;rw[aTD (sX h),aTD (rR h),xW (t:= .str) h,h1,aTC,aTC,aTD (sC (by omega))];rfl) (by
  unfold QH;rw[aTG (uM _)])
 unfold BJ MY;rw[h,FD];show some (decide _)=_;rw[aGE]
theorem aGX (l:List (List UInt8)) (hl:pS l) (hx: ∀x∈l,pS x):KF l=some ()/\((decide ((l.length:Int)<=20))&&(!(val (BJ l))))=vR l:=by
 unfold KF;rw[aNZ l hl hx];exact⟨aTD wB,rfl⟩
def R1 (l:List (List UInt8)) (i:Nat):Bool:=(!rY (l.getD i []))||(decide (0<i)&& !Op.bytesLess (l.getD (i-1) []) (l.getD i []))
def CD (l:List (List UInt8)):Bool:= !((List.range l.length).any (R1 l))&&decide ((l.length:Int)<=20)
theorem W7 {l:List (List UInt8)}{i:Nat}:pU .str l (i:Int)=l.getD i []:=by unfold pU;rw[aUv];rfl
theorem aGY {l:List (List UInt8)}{i:Nat}:pU .str l ((i:Int)-1)=l.getD (i-1) []:=by
 unfold pU;rw[show ((i:Int)-1).toNat=i-1 by omega];rfl
theorem W8 {i:Nat}:decide ((0:Int)<(i:Int))=decide (0<i):=by simp
theorem aN0 (l:List (List UInt8)) (hl:pS l):GE l=some (CD l):=by
 unfold pS at hl;have h:=QZ (f:=PU l) (n:=l.length) (R1 l) (fun _=>false) (fun i h=>by
  unfold PU;rw[aTD (sX h),aTD (rR h),W7,aGY,VX,aTC,W8];have h0: ∀q:Bool,((q==false)&&(decide (0<i)==true))=true->0<i:=fun q hq=>by
   simp only[aTL,aVT,aTK] at hq;exact hq.2
  rw[aTD (fun hq=>by have:=h0 _ hq;unfold pE;omega),aTD (fun hq=>by have:=h0 _ hq;omega),aTD (sC (by omega))];rfl) (by
  unfold PU;rw[aTG (uM _)])
 unfold GE;rw[h,R0];rfl
theorem aN1 (l:List (List UInt8)) (hl:pS l) (hx: ∀x∈l,pS x):E2 l=some (CD l):=by
 unfold pS at hl;have h:=QZ (f:=QB l) (n:=l.length) (R1 l) (fun _=>false) (fun i h=>by
  unfold QB;have hf:pS (l.getD i []):=by rw[aT6,aTM h];exact hx _ (aUB h)
  rw[aTD (sX h),aTD (rR h),W7,aGY,VW _ hf,aTC,W8];have h0: ∀q:Bool,((q==false)&&(decide (0<i)==true))=true->0<i:=fun q hq=>by
   simp only[aTL,aVT,aTK] at hq;exact hq.2
  rw[aTD (fun _=>rR h),aTD (fun hq=>by have:=h0 _ hq;unfold pE;omega),aTD (fun hq=>by have:=h0 _ hq;omega),aTD (sC (by omega)),<-a8v];rfl) (by
  unfold QB;rw[aTG (uM _)])
 unfold E2;rw[h,R0];rfl
abbrev fD:rF:=([],([],()))
def R2 (l:List rF) (i:Nat):Bool:=((!rY (l.getD i fD).1)||(!sA (l.getD i fD).2.1))||(decide (0<i)&& !Op.bytesLess (l.getD (i-1) fD).1 (l.getD i fD).1)
def vS (l:List rF):Bool:= !((List.range l.length).any (R2 l))&&decide ((l.length:Int)<=20)
theorem a8w {l:List rF}{i:Nat}:pU (.pair .str (.pair .str .unit)) l (i:Int)=l.getD i fD:=by unfold pU;rw[aUv];rfl
theorem aGZ {l:List rF}{i:Nat}:pU (.pair .str (.pair .str .unit)) l ((i:Int)-1)=l.getD (i-1) fD:=by
 unfold pU;rw[show ((i:Int)-1).toNat=i-1 by omega];rfl
def R3 (x:rF):Prop:=pS x.1/\pS x.2.1
theorem KO {α:Type}{l:List α}{i:Nat}{d:α}(h:i<l.length):l.getD i d∈l:=by
 rw[aT6,aTM h];exact aUB h
theorem W9 {i:Nat}{q:Bool}(hq:((q==false)&&(decide (0<i)==true))=true):0<i:=by
 simp only[aTL,aVT,aTK] at hq;exact hq.2
theorem aG0 (l:List rF) (hl:pS l) (hx: ∀x∈l,R3 x):F8 l=some (vS l):=by
 unfold pS at hl;have h:=QZ (f:=QC l) (n:=l.length) (R2 l) (fun _=>false) (fun i h=>by
  unfold QC;have hf:=hx _ (KO (d:=fD) h);rw[aTD (sX h),aTD (rR h),a8w,aGZ,VX,aTC,W8,ND _ hf.2];rw[aTD wB,aTD (fun hq=>by have:=W9 hq;unfold pE;omega),aTD (fun hq=>by have:=W9 hq;omega),aTD (sC (by omega))];rfl) (by
  unfold QC;rw[aTG (uM _)])
 unfold F8;rw[h,R0];rfl
theorem aG1 (l:List rF) (hl:pS l) (hx: ∀x∈l,R3 x):CZ l=some (vS l):=by
 unfold pS at hl;have h:=QZ (f:=QL l) (n:=l.length) (R2 l) (fun _=>false) (fun i h=>by
  unfold QL;have hf:=hx _ (KO (d:=fD) h);obtain⟨h1,h2⟩:=NC _ hf.2;rw[aTD (sX h),aTD (rR h),a8w,aGZ,VW _ hf.1,aTC,W8,h1,h2];rw[aTD (fun _=>rR h),aTD wB,aTD (fun _=>rR h),aTD (fun hq=>by have:=W9 hq;unfold pE;omega),aTD (fun hq=>by have:=W9 hq;omega),aTD (sC (by omega)),<-a8v];rfl) (by
  unfold QL;rw[aTG (uM _)])
 unfold CZ;rw[h,R0];rfl
abbrev tC:=rD
structure WA (x:tC):Prop where
 id:pS x.1
 src:pS x.2.1
 tgt:pS x.2.2.1
 com:pS x.2.2.2.1/\∀y∈x.2.2.2.1,pS y
 flg:pS x.2.2.2.2.1/\∀y∈x.2.2.2.2.1,pS y
 fld:pS x.2.2.2.2.2.2.1/\∀y∈x.2.2.2.2.2.2.1,R3 y
def xH (x:tC):Bool:=
 (((((((!decide (x.1=[]))&&decide ((x.1.length:Int)<=200))&&sA x.1)&&sA x.2.1)&&sA x.2.2.1)&&vR x.2.2.2.1)&&CD x.2.2.2.2.1)&&(decide (0<=x.2.2.2.2.2.1)&&decide (x.2.2.2.2.2.1<=4))&&vS x.2.2.2.2.2.2.1
theorem aN2 (x:tC) (h:WA x):IH x=some (xH x):=by
 obtain⟨t1,t2⟩:=aGX _ h.com.1 h.com.2;have e1:=aN0 _ h.flg.1;have e2:=aG0 _ h.fld.1 h.fld.2;unfold IH;rw[ND _ h.id,ND _ h.src,ND _ h.tgt,t1,t2,e1,e2];have k: ∀s:List UInt8,(decide ((s.length:Int)<=4000)&&Lib.validD s)=sA s:=fun s=>rfl;rw[aTD wB,aTC,aTD wB,aTD wB,aTD wB,aTD wB,k,k,k];unfold xH;show (if _ then some false else some _)=_;have a1:decide ((200:Int)<(x.1.length:Int))= !decide ((x.1.length:Int)<=200):=by rw[<-decide_not];exact aVk.2 (by omega)
 have a2:decide (x.2.2.2.2.2.1<(0:Int))= !decide ((0:Int)<=x.2.2.2.2.2.1):=by rw[<-decide_not];exact aVk.2 (by omega)
 have a3:decide ((4:Int)<x.2.2.2.2.2.1)= !decide (x.2.2.2.2.2.1<=(4:Int)):=by rw[<-decide_not];exact aVk.2 (by omega)
 rw[a1,a2,a3];show (if _ then some false else some (((((sA x.2.1&&sA x.2.2.1)&&vR x.2.2.2.1)&&CD x.2.2.2.2.1))&&vS x.2.2.2.2.2.2.1))=_;generalize decide (x.1=[])=b1;generalize decide ((x.1.length:Int)<=200)=b2;generalize sA x.1=b3;generalize sA x.2.1=b4;generalize sA x.2.2.1=b5;generalize vR x.2.2.2.1=b6;generalize CD x.2.2.2.2.1=b7;generalize decide ((0:Int)<=x.2.2.2.2.2.1)=b8;generalize decide (x.2.2.2.2.2.1<=(4:Int))=b9;generalize vS x.2.2.2.2.2.2.1=b10;cases b1<;>cases b2<;>cases b3<;>cases b8<;>cases b9<;>simp
theorem aN3 (x:tC) (h:WA x):N1 x=some ()/\((((((((((!decide (x.1=([]:List UInt8)))&&(decide ((x.1.length:Int)<=(200:Int))))&&((decide ((x.1.length:Int)<=(4000:Int)))&&(val (tM x.1))))&&((decide ((x.2.1.length:Int)<=(4000:Int)))&&(val (tM x.2.1))))&&((decide ((x.2.2.1.length:Int)<=(4000:Int)))&&(val (tM x.2.2.1))))&&(val (AO x.2.2.2.1)))&&(val (E2 x.2.2.2.2.1)))&&(decide ((0:Int)<=x.2.2.2.2.2.1)))&&(decide (x.2.2.2.2.2.1<=(4:Int))))&&(val (CZ x.2.2.2.2.2.2.1)))=xH x:=by
 obtain⟨u1,v1⟩:=NC _ h.id;obtain⟨u2,v2⟩:=NC _ h.src;obtain⟨u3,v3⟩:=NC _ h.tgt;have e0:=aGW _ h.com.1 h.com.2;have e1:=aN1 _ h.flg.1 h.flg.2;have e2:=aG1 _ h.fld.1 h.fld.2;unfold N1;rw[u1,u2,u3,v1,v2,v3,e0,e1,e2];refine⟨?_,?_⟩
 ·rw[aTD wB,aTD wB,aTD wB,aTD wB,aTD wB,aTD wB]
 ·unfold xH;show (((((((((!_&&_)&&_)&&_)&&_)&&vR x.2.2.2.1)&&CD x.2.2.2.2.1)&&_)&&_)&&vS x.2.2.2.2.2.2.1)=_;simp only[Bool.and_assoc]
theorem sib (l:List UInt8) (b:UInt8):tK l (b.toNat:Int)=Lib.indexByte l b:=by
 unfold tK;rw[aUv];congr 1;simp
def sH (d:UInt8):List UInt8->Option Nat
 |[]=>none
 |[b]=>if b=d then some 0 else none
 |b::c::t=>if b=d then some 0 else if b=92 then(sH d t).map (· +2) else(sH d (c::t)).map (· +1)
def EC:Option Nat->Int
 |some k=>k
 |none=> -1
theorem WB {d:UInt8}:sH d []=none:=by unfold sH;rfl
theorem WC {d b:UInt8}{t:List UInt8}(h:b=d):sH d (b::t)=some 0:=by
 subst h;cases t<;>(unfold sH;simp)
theorem WD {d b:UInt8}{t:List UInt8}(h:b≠d) (hb:b=92):sH d (b::t)=(sH d (t.drop 1)).map (· +2):=by
 cases t with
 |nil=>unfold sH;rw[aTG h];simp [sH]
 |cons c t=>rw[sH,aTG h,aTD hb];rfl
theorem WE {d b:UInt8}{t:List UInt8}(h:b≠d) (hb:b≠92):sH d (b::t)=(sH d t).map (· +1):=by
 cases t with
 |nil=>unfold sH;rw[aTG h];simp [sH]
 |cons c t=>rw[sH,aTG h,aTG hb]
theorem R4 {d:UInt8}: ∀(n:Nat) (l:List UInt8) (k:Nat),l.length<=n->sH d l=some k->k<l.length
 |_,[],_,_,h=>by rw[WB] at h;cases h
 |0,_::_,_,hn,_=>by simp at hn
 |n+1,b::t,k,hn,h=>by
  simp only[aTJ] at hn⊢;by_cases h1:b=d
  ·rw[WC h1] at h;cases h;omega
  ·by_cases h2:b=92
   ·rw[WD h1 h2] at h;cases h3:sH d (t.drop 1) with
    |none=>rw[h3] at h;cases h
    |some j=>
     rw[h3] at h;obtain rfl:j+2=k:=aTI h;have:=R4 n (t.drop 1) j (by rw[aTR];omega) h3;rw[aTR] at this;omega
   ·rw[WE h1 h2] at h;cases h3:sH d t with
    |none=>rw[h3] at h;cases h
    |some j=>
     rw[h3] at h;obtain rfl:j+1=k:=aTI h;have:=R4 n t j (by omega) h3;omega
theorem WF {a b:UInt8}:((a.toNat:Int)=(b.toNat:Int))↔a=b:=by
 rw[Int.ofNat_inj];exact UInt8.toNat_inj
theorem a8y (n:Int) (hn:n≠4) (s:List UInt8) (d:UInt8) (hs:pS s): ∀(k i:Nat),s.length+1<=i+k->qB (MJ n s (d.toNat:Int)) (i:Int)=some (uA (fun k=> .inr ((i+k:Nat):Int)) (.inl ()) (sH d (s.drop i)))
 |0,i,h=>by
  rw[List.drop_eq_nil_of_le (by omega),WB,vA (r:= .inl ()) (by unfold MJ;rw[aTG (by simp;omega)])];rfl
 |k+1,i,h=>by
  by_cases hlt:i<s.length
  ·have hs':=hs;unfold pS at hs';have hstep:MJ n s (d.toNat:Int) (i:Int)=if s[i]=d then some (.inr (.inr (i:Int))) else if s[i]=92 then some (.inl ((i+2:Nat):Int)) else some (.inl ((i+1:Nat):Int)):=by
    unfold MJ;rw[aTD (sX hlt),aTD (rR hlt),yD hlt];by_cases h1:s[i]=d
    ·rw[aTD (by simp [h1]),aTD h1]
    ·rw[aTG (by simpa[WF] using h1),aTG h1,aTD (fun _=>rR hlt)];have h92:((92:Int))=((92:UInt8).toNat:Int):=rfl;by_cases h2:s[i]=92
     ·rw[aTD (by rw[h2];simp [hn]),aTD h2,aTD (sC (by omega)),aTD (by unfold pE;omega)];congr 3
     ·rw[aTG (fun h=>by
       simp only[aTL,aTK] at h;exact h2 (WF.1 (h.2.trans h92))),aTG h2,aTD (sC (by omega))]
      rfl
   rw[xV,hstep,aT2 hlt];by_cases h1:s[i]=d
   ·rw[aTD h1,WC h1];rfl
   ·rw[aTG h1];by_cases h2:s[i]=92
    ·rw[aTD h2,WD h1 h2];show qB _ ((i+2:Nat):Int)=_;rw[a8y n hn s d hs k (i+2) (by omega),aUs];cases sH d (s.drop (i+2)) with
     |none=>rfl
     |some j=>
      show some (Sum.inr ((i+2+j:Nat):Int))=some (Sum.inr ((i+(j+2):Nat):Int));rw[show i+2+j=i+(j+2) by omega]
    ·rw[aTG h2,WE h1 h2];show qB _ ((i+1:Nat):Int)=_;rw[a8y n hn s d hs k (i+1) (by omega)];cases sH d (s.drop (i+1)) with
     |none=>rfl
     |some j=>
      show some (Sum.inr ((i+1+j:Nat):Int))=some (Sum.inr ((i+(j+1):Nat):Int));rw[show i+1+j=i+(j+1) by omega]
  ·rw[List.drop_eq_nil_of_le (by omega),WB,vA (r:= .inl ()) (by unfold MJ;rw[aTG (by simp;omega)])];rfl
theorem aG2 {n:Int}(h1:1<=n) (h3:n<=3) (s:List UInt8) (d:UInt8) (hs:pS s):MK n s (d.toNat:Int)=some (EC (sH d s)):=by
 unfold MK;have h:=a8y n (by omega) s d hs (s.length+1) 0 (by omega);rw[aTG (by simp;omega),show ((0:Int))=((0:Nat):Int) from rfl,h,aUO];cases sH d s with
 |none=>rfl
 |some k=>
  show some (((0+k:Nat)):Int)=some (k:Int);rw[aUg]
theorem aN4 (n:Int) (s:List UInt8) (c:Int):K9 n s c=MK n s c:=by
 unfold K9 MK;rfl
def AV (c base:Int):Int:=
 let n:=if 48<=c/\c<=57 then c-48 else if 97<=c/\c<=102 then c-87 else if 65<=c/\c<=70 then c-55 else-1
 if base<=n then-1 else n
theorem aN5 {c:Int}(base:Int) (h0:0<=c) (h1:c<=255):VA c base=some (AV c base):=by
 unfold VA AV;by_cases a:48<=c/\c<=57
 ·rw[aTD (by simpa using a),aTD a,show IntKind.i64.wrap (IntKind.u8.wrap (c-48))=c-48 by rw[aUT,aUF];omega];simp only[rH,aTC,aTK];split<;>rfl
 ·rw[aTG (by simpa using a),aTG a];by_cases b:97<=c/\c<=102
  ·rw[aTD (by simpa using b),aTD b,show IntKind.i64.wrap (IntKind.u8.wrap (c-97))=c-97 by rw[aUT,aUF];omega,aTD (by unfold pE;omega),show c-97+10=c-87 by omega];simp only[rH,aTC,aTK];split<;>rfl
  ·rw[aTG (by simpa using b),aTG b];by_cases d:65<=c/\c<=70
   ·rw[aTD (by simpa using d),aTD d,show IntKind.i64.wrap (IntKind.u8.wrap (c-65))=c-65 by rw[aUT,aUF];omega,aTD (by unfold pE;omega),show c-65+10=c-55 by omega];simp only[rH,aTC,aTK];split<;>rfl
   ·rw[aTG (by simpa using d),aTG d];simp only[rH,aTC,aTK];split<;>rfl
def WG:List UInt8:=[48,49,50,51,52,53,54,55,56,57,97,98,99,100,101,102]
theorem aN6: ∀n:Fin 256,Lib.indexByte WG (UInt8.ofNat n)=if 48<=(n.val:Int)/\(n.val:Int)<=57 then(n.val:Int)-48 else if 97<=(n.val:Int)/\(n.val:Int)<=102 then(n.val:Int)-87 else-1:=by decide
theorem aN7 (b:UInt8):Lib.indexByte WG b=if 48<=(b.toNat:Int)/\(b.toNat:Int)<=57 then(b.toNat:Int)-48 else if 97<=(b.toNat:Int)/\(b.toNat:Int)<=102 then(b.toNat:Int)-87 else-1:=by
 have:=aN6 ⟨b.toNat,b.toNat_lt⟩;simpa using this
def yN (base:Int):Int->List UInt8->Option Int
 |acc,[]=>some acc
 |acc,b::t=>if AV b.toNat base<0 then none else yN base (base*acc+AV b.toNat base) t
theorem aG3 {c base:Int}(hb:0<base): -1<=AV c base/\AV c base<base:=by
 unfold AV;dsimp only
 repeat' split
 all_goals omega
theorem aG4 (s:List UInt8) (base:Int) (hb:0<base) (hb16:base<=16) (hs:s.length<=8): ∀(k j:Nat) (acc:Int),j+k=s.length->0<=acc->acc<16^j->
  qB (Q9 s base) (acc,(j:Int))=some (match yN base acc (s.drop j) with|some n=> .inl n|none=> .inr (-1))
 |0,j,acc,hj,_,_=>by
  have:j=s.length:=by omega
  subst this;rw[aUk,vA (r:= .inl acc) (by unfold Q9;simp)];rfl
 |k+1,j,acc,hj,h0,h1=>by
  have hlt:j<s.length:=by omega
  have hc:=s[j].toNat_lt;have hd:=aG3 (c:=(s[j].toNat:Int)) hb;have hp:(16:Int) ^j<=16^8:=by
   have:(16:Nat) ^j<=16^8:=Nat.pow_le_pow_right (by decide) (by omega)
   exact_mod_cast this
  have h8:(16:Int) ^8=4294967296:=by decide
  have hm:base*acc<=16*acc:=Int.mul_le_mul_of_nonneg_right hb16 h0;have hm0:0<=base*acc:=Int.mul_nonneg (by omega) h0;have hstep:Q9 s base (acc,(j:Int))=if AV s[j].toNat base<0 then some (.inr (.inr (-1))) else some (.inl (base*acc+AV s[j].toNat base,((j+1:Nat):Int))):=by
   unfold Q9;dsimp only;rw[aTD (sX hlt),aTD (rR hlt),yD hlt,aN5 base (by omega) (by omega)];simp only[aTC,aTK];by_cases hn:AV s[j].toNat base<0
   ·rw[aTD hn,aTD hn]
   ·rw[aTG hn,aTG hn,aTD (by unfold pE;omega),aTD (by unfold pE;omega),aTD (sC (by omega))];rfl
  rw[xV,hstep,aT2 hlt,yN];by_cases hn:AV s[j].toNat base<0
  ·rw[aTD hn,aTD hn];rfl
  ·rw[aTG hn,aTG hn];show qB _ (_,((j+1:Nat):Int))=_;exact aG4 s base hb hb16 hs k (j+1) _ (by omega) (by omega) (by rw[Int.pow_succ];omega)
theorem aG5 (s:List UInt8) (base:Int) (hb:0<base) (hb16:base<=16) (hs:s.length<=8):KB s base=some (if s=[] then-1 else(yN base 0 s).getD (-1)):=by
 unfold KB;rw[show ((0:Int),(0:Int))=((0:Int),((0:Nat):Int)) from rfl,aG4 s base hb hb16 hs s.length 0 0 (by omega) (by omega) (by decide),aUO];cases h:yN base 0 s with
 |none=>
  have:s≠[]:=by intro hn;subst hn;simp [yN] at h
  rw[aTG this];rfl
 |some n=>
  show (if decide (s=[])=true then _ else _)=_;by_cases he:s=[]
  ·rw[aTD (by simpa using he),aTD he]
  ·rw[aTG (by simpa using he),aTG he];rfl
theorem aG6 (s:List UInt8) (base:Int) (hb:0<base) (hb16:base<=16) (hs:s.length<=8): ∀(k j:Nat) (acc:Int),j+k=s.length->0<=acc->acc<16^j->
  qB (ML s base) (acc,(j:Int))=some (match yN base acc (s.drop j) with|some n=> .inl n|none=> .inr (0,false))
 |0,j,acc,hj,_,_=>by
  have:j=s.length:=by omega
  subst this;rw[aUk,vA (r:= .inl acc) (by unfold ML;simp)];rfl
 |k+1,j,acc,hj,h0,h1=>by
  have hlt:j<s.length:=by omega
  have hc:=s[j].toNat_lt;have hd:=aG3 (c:=(s[j].toNat:Int)) hb;have hp:(16:Int) ^j<=16^8:=by
   have:(16:Nat) ^j<=16^8:=Nat.pow_le_pow_right (by decide) (by omega)
   exact_mod_cast this
  have h8:(16:Int) ^8=4294967296:=by decide
  have hm:acc*base<=acc*16:=Int.mul_le_mul_of_nonneg_left hb16 h0;have hm0:0<=acc*base:=Int.mul_nonneg h0 (by omega);have hcm:acc*base=base*acc:=Int.mul_comm _ _;have hstep:ML s base (acc,(j:Int))=if AV s[j].toNat base<0 then some (.inr (.inr (0,false))) else some (.inl (base*acc+AV s[j].toNat base,((j+1:Nat):Int))):=by
   unfold ML;dsimp only;rw[aTD (sX hlt),aTD (rR hlt),aTD (rR hlt),aTD (fun _=>rR hlt),yD hlt,aTD (rR hlt),sib];have hidx:=aN7 s[j];have hval:(if ((decide ((65:Int)<=(s[j].toNat:Int)))&&(decide ((s[j].toNat:Int)<=(70:Int))))=true then(if pE ((IntKind.wrap .i64 (IntKind.wrap .u8 ((s[j].toNat:Int)- (65:Int))))+(10:Int)) then some (((IntKind.wrap .i64 (IntKind.wrap .u8 ((s[j].toNat:Int)- (65:Int))))+(10:Int))) else none) else some (Lib.indexByte WG s[j]))=some (if 48<=(s[j].toNat:Int)/\(s[j].toNat:Int)<=57 then(s[j].toNat:Int)-48 else if 97<=(s[j].toNat:Int)/\(s[j].toNat:Int)<=102 then(s[j].toNat:Int)-87 else if 65<=(s[j].toNat:Int)/\(s[j].toNat:Int)<=70 then(s[j].toNat:Int)-55 else-1):=by
    by_cases c:65<=(s[j].toNat:Int)/\(s[j].toNat:Int)<=70
    ·rw[aTD (by simpa using c),show IntKind.i64.wrap (IntKind.u8.wrap ((s[j].toNat:Int)-65))=(s[j].toNat:Int)-65 by rw[aUT,aUF];omega,aTD (by unfold pE;omega),aTG (by omega),aTG (by omega),aTD c];congr 1;omega
    ·rw[aTG (by simpa using c),hidx,aTG c]
   unfold rH;rw[show ([48,49,50,51,52,53,54,55,56,57,97,98,99,100,101,102]:List UInt8)=WG from rfl,hval];simp only[aTC];unfold AV;dsimp only;generalize (if 48<=(s[j].toNat:Int)/\(s[j].toNat:Int)<=57 then(s[j].toNat:Int)-48 else if 97<=(s[j].toNat:Int)/\(s[j].toNat:Int)<=102 then(s[j].toNat:Int)-87 else if 65<=(s[j].toNat:Int)/\(s[j].toNat:Int)<=70 then(s[j].toNat:Int)-55 else-1)=D;by_cases hn:D<0\/base<=D
   ·rw[aTD (by simpa using hn)];by_cases hbD:base<=D
    ·rw[aTD hbD,aTD (by decide)]
    ·rw[aTG hbD,aTD (by omega)]
   ·rw[aTG (by simpa using hn)];have hbD: ¬base<=D:=fun h=>hn (.inr h);have hD0: ¬D<0:=fun h=>hn (.inl h);rw[aTG hbD,aTG hD0,aTD (by unfold pE;omega),aTD (by unfold pE;omega),aTD (sC (by omega)),hcm];rfl
  rw[xV,hstep,aT2 hlt,yN];by_cases hn:AV s[j].toNat base<0
  ·rw[aTD hn,aTD hn];rfl
  ·rw[aTG hn,aTG hn];show qB _ (_,((j+1:Nat):Int))=_;exact aG6 s base hb hb16 hs k (j+1) _ (by omega) (by omega) (by rw[Int.pow_succ];omega)
theorem aG7 (s:List UInt8) (base:Int) (hb:0<base) (hb16:base<=16) (hs:s.length<=8):F4 s base=some (match yN base 0 s with|some n=>(n,!decide (s=[])) |none=>(0,false)):=by
 unfold F4;rw[show ((0:Int),(0:Int))=((0:Int),((0:Nat):Int)) from rfl,aG6 s base hb hb16 hs s.length 0 0 (by omega) (by omega) (by decide),aUO];cases h:yN base 0 s with
 |none=>rfl
 |some n=>rfl
theorem R5 {base:Int}(hb:0<base): ∀{s:List UInt8}{acc n:Int},0<=acc->yN base acc s=some n->0<=n
 |[],acc,n,h0,h=>by cases h;exact h0
 |b::t,acc,n,h0,h=>by
  rw[yN] at h;split at h
  ·cases h
  ·exact R5 hb (by have:=Int.mul_nonneg (Int.le_of_lt hb) h0;omega) h
theorem aN8 (b:UInt8) (l:List UInt8) (hl:pS l):DS (b.toNat:Int) l=some (l.contains b):=by
 unfold pS at hl;have h:=BF (f:=V7 (b.toNat:Int) l) (l:=l) (fun x=>decide (x=b)) (fun _=>true) (fun i h=>by
  unfold V7;rw[aTD (sX h),aTD (rR h),yD h,aTD (sC (by omega))];simp only[WF,aTK]) (by
  unfold V7;rw[aTG (uM _)])
 unfold DS;rw[h,FD,a8l];congr 1;rw[aUH];simp
def KP:List UInt8:=[92,34,61,58,35,33,123,125,32]
def FF (l:List UInt8) (k:Nat) (ok:Int->Bool) (f:Int->List UInt8):List UInt8×Nat:=
 match yN 16 0 l with
 |some n=>if ok n=true then(f n,k) else([],0)
 |none=>([],0)
def wX (l:List UInt8):List UInt8×Nat:=
 match l with
 |_::c::t=>
  if c=110 then([10],2) else if c=114 then([13],2) else if c=116 then([9],2)
  else if KP.contains c=true then([c],2)
  else if c=120/\2<=t.length then FF (t.take 2) 4 (fun n=>decide (n<=127)) (fun n=>s5 [n])
  else if c=117/\4<=t.length then FF (t.take 4) 6 w9 Lib.encodeRune
  else([],0)
 |_=>([],0)
theorem uS {a:UInt8}{n:Int}(b:UInt8) (hb:n=(b.toNat:Int)):decide ((a.toNat:Int)=n)=decide (a=b):=by
 rw[hb];simp only[WF]
theorem aG8 (a c:UInt8) (t:List UInt8):pT (a::c::t) 2 4=t.take 2:=rfl
theorem aG9 (a c:UInt8) (t:List UInt8):pT (a::c::t) 2 6=t.take 4:=rfl
theorem aHa (a c:UInt8) (t:List UInt8):pT (a::c::t) 1 2=[c]:=rfl
theorem aN9 (a:UInt8) (t:List UInt8):QG (a::t)=some ((wX (a::t)).1,((wX (a::t)).2:Int)):=by
 cases t with
 |nil=>unfold QG;rw[aTD (by simp)];rfl
 |cons c t=>
  have hy:pR (a::c::t) (1:Int)=(c.toNat:Int):=yD (i:=1) (by simp);unfold QG;rw[aTG (by simp;omega),aTD (⟨by decide,by simp;omega⟩),hy,uS (n:=110) 110 rfl,uS (n:=114) 114 rfl,uS (n:=116) 116 rfl,uS (n:=120) 120 rfl,uS (n:=117) 117 rfl,aN8 c _ (by unfold pS;decide),aG8,aG9,aHa];show _=some ((if c=110 then(([10],2):List UInt8×Nat) else _).1,((if c=110 then(([10],2):List UInt8×Nat) else _).2:Int));by_cases h1:c=110
  ·rw[aTD (by simpa using h1),aTD h1];rfl
  rw[aTG (by simpa using h1),aTG h1];by_cases h2:c=114
  ·rw[aTD (by simpa using h2),aTD h2];rfl
  rw[aTG (by simpa using h2),aTG h2];by_cases h3:c=116
  ·rw[aTD (by simpa using h3),aTD h3];rfl
  rw[aTG (by simpa using h3),aTG h3,aTC];show (if KP.contains c=true then _ else _)=_;by_cases h4:KP.contains c=true
  ·rw[aTD h4,aTD h4,aTD ⟨by decide,by decide,by simp;omega⟩];rfl
  rw[aTG h4,aTG h4];have hlen:((a::c::t).length:Int)=(t.length:Int)+2:=by simp;omega
  rw[hlen];by_cases h5:c=120/\2<=t.length
  ·rw[aTD (by simp [h5.1];omega),aTD h5,aTD ⟨by decide,by decide,by omega⟩,aG5 _ 16 (by decide) (by decide) (by rw[aT5];omega),aTG (by intro h;have:=aUi List.length h;rw[aT5,aT0] at this;omega),aTC];unfold FF;cases hn:yN 16 0 (t.take 2) with
   |none=>rfl
   |some n=>
    have h0:=R5 (by decide) (aUq 0) hn;simp only[aU8];by_cases h7:n<=127
    ·rw[aTD (by simp;omega),aTD (by simpa using h7),aUT,show n%256=n by omega];rfl
    ·rw[aTG (by simp;omega),aTG (by simpa using h7)];rfl
  rw[aTG (by simp only[aTL,aTK];intro h;exact h5 ⟨h.1,by omega⟩),aTG h5];by_cases h6:c=117/\4<=t.length
  ·rw[aTD (by simp [h6.1];omega),aTD h6,aTD ⟨by decide,by decide,by omega⟩,aG5 _ 16 (by decide) (by decide) (by rw[aT5];omega),aTG (by intro h;have:=aUi List.length h;rw[aT5,aT0] at this;omega),aTC];unfold FF;cases hn:yN 16 0 (t.take 4) with
   |none=>rfl
   |some n=>
    have h0:=R5 (by decide) (aUq 0) hn;simp only[aU8];show (if (decide (0<=n)&&w9 n)=true then _ else _)=_;by_cases h7:w9 n=true
    ·rw[aTD (by simp [h7,h0]),aTD h7,a8o ((H0 n).1 h7)];rfl
    ·rw[aTG (by simp [h7]),aTG h7];rfl
  rw[aTG (by simp only[aTL,aTK];intro h;exact h6 ⟨h.1,by omega⟩),aTG h6];rfl
theorem aOa (a:UInt8) (t:List UInt8):GU (a::t)=some ((wX (a::t)).1,((wX (a::t)).2:Int)):=by
 cases t with
 |nil=>unfold GU;rw[aTD (by simp)];rfl
 |cons c t=>
  have hy:pR (a::c::t) (1:Int)=(c.toNat:Int):=yD (i:=1) (by simp);have hlen:((a::c::t).length:Int)=(t.length:Int)+2:=by simp;omega
  unfold GU;rw[aTG (by simp;omega),aTD (⟨by decide,by simp;omega⟩),hy,uS (n:=110) 110 rfl,uS (n:=114) 114 rfl,uS (n:=116) 116 rfl,uS (n:=120) 120 rfl,uS (n:=117) 117 rfl,sib,aG8,aG9,aHa,hlen,<-Lib.contains_iff_indexByte];show _=some ((if c=110 then(([10],2):List UInt8×Nat) else _).1,((if c=110 then(([10],2):List UInt8×Nat) else _).2:Int));by_cases h1:c=110
  ·rw[aTD (by simpa using h1),aTD h1];rfl
  rw[aTG (by simpa using h1),aTG h1];by_cases h2:c=114
  ·rw[aTD (by simpa using h2),aTD h2];rfl
  rw[aTG (by simpa using h2),aTG h2];by_cases h3:c=116
  ·rw[aTD (by simpa using h3),aTD h3];rfl
  rw[aTG (by simpa using h3),aTG h3];by_cases hx:c=120
  ·subst hx;rw[aTD (show decide ((120:UInt8)=120)=true from rfl),aTG (show¬KP.contains 120=true by decide)];by_cases h5:2<=t.length
   ·rw[aTD (by simp;omega),aTD ⟨by decide,by decide,by omega⟩,aTD (show _/\_ from⟨rfl,h5⟩),aG7 _ 16 (by decide) (by decide) (by rw[aT5];omega),aTC];unfold FF;cases hn:yN 16 0 (t.take 2) with
    |none=>rfl
    |some n=>
     have h0:=R5 (by decide) (aUq 0) hn;have hne:t.take 2≠[]:=by intro h;have:=aUi List.length h;rw[aT5,aT0] at this;omega
     simp only[hne,decide_false,Bool.not_false,Bool.true_and];by_cases h7:n<=127
     ·rw[aTD (by simpa using h7),aTD (by simpa using h7),aUT,show n%256=n by omega];rfl
     ·rw[aTG (by simpa using h7),aTG (by simpa using h7)];rfl
   ·rw[aTG (by simp;omega),aTG (fun h=>h5 h.2),aTG (show¬((120:UInt8)=117/\4<=t.length) from fun h=>by cases h.1)];rfl
  rw[aTG (by simpa using hx)];by_cases hu:c=117
  ·subst hu;rw[aTD (show decide ((117:UInt8)=117)=true from rfl),aTG (show¬KP.contains 117=true by decide),aTG (show¬((117:UInt8)=120/\2<=t.length) from fun h=>by cases h.1)];by_cases h5:4<=t.length
   ·rw[aTD (by simp;omega),aTD ⟨by decide,by decide,by omega⟩,aTD (show _/\_ from⟨rfl,h5⟩),aG7 _ 16 (by decide) (by decide) (by rw[aT5];omega),aTC];unfold FF;cases hn:yN 16 0 (t.take 4) with
    |none=>rfl
    |some n=>
     have h0:=R5 (by decide) (aUq 0) hn;have hne:t.take 4≠[]:=by intro h;have:=aUi List.length h;rw[aT5,aT0] at this;omega
     simp only[hne,decide_false,Bool.not_false];rw[aTD trivial,aNL,aTC];have hb:w9 n=(decide (n<=1114111)&&(decide (n<55296)||decide (57343<n))):=by
      unfold w9;rw[show decide ((0:Int)<=n)=true by simpa using h0,Bool.true_and]
     rw[<-hb];by_cases h7:w9 n=true
     ·rw[aTD h7,aTD h7,aTD h7];rfl
     ·rw[aTG h7,aTG h7];rfl
   ·rw[aTG (by simp;omega),aTG (fun h=>h5 h.2)];rfl
  rw[aTG (by simpa using hu)];show (if KP.contains c=true then _ else _)=_;by_cases h4:KP.contains c=true
  ·rw[aTD h4,aTD h4,aTD ⟨by decide,by decide,by omega⟩];rfl
  ·rw[aTG h4,aTG h4,aTG (fun h=>hx h.1),aTG (fun h=>hu h.1)];rfl
def AC (n:Int) (b:UInt8):Bool:=decide (b=10)||((decide (n=2)||decide (n=3))&&decide (b=34))
def sN (n:Int):List UInt8->List UInt8×Nat
 |[]=>([],0)
 |b::t=>if b=92 then wX (b::t) else if AC n b=true then([b],0) else([b],1)
theorem WH {l:List UInt8}{k:Nat}{ok:Int->Bool}{f:Int->List UInt8}(hf: ∀n,(f n).length<=4):(FF l k ok f).1.length<=4/\((FF l k ok f).2=0\/(FF l k ok f).2=k):=by
 unfold FF;cases yN 16 0 l with
 |none=>exact⟨by simp,.inl rfl⟩
 |some n=>
  dsimp only;split
  ·exact⟨hf n,.inr rfl⟩
  ·exact⟨by simp,.inl rfl⟩
theorem aOb (l:List UInt8):(wX l).1.length<=4/\(wX l).2<=l.length:=by
 unfold wX;split
 ·rename_i a c t;have h1:=WH (l:=t.take 2) (k:=4) (ok:=fun n=>decide (n<=127)) (f:=fun n=>s5 [n]) (fun n=>by simp [s5]);have h2:=WH (l:=t.take 4) (k:=6) (ok:=w9) (f:=Lib.encodeRune) a8u
  repeat' split
  all_goals first
   |exact⟨by simp,by simp⟩
   |(rename_i h;exact⟨h1.1,by rcases h1.2 with e|e<;>rw[e]<;>simp<;>omega⟩)
   |(rename_i h;exact⟨h2.1,by rcases h2.2 with e|e<;>rw[e]<;>simp<;>omega⟩)
 ·exact⟨by simp,by simp⟩
theorem NE {n:Int}{b:UInt8}{t:List UInt8}(h:b=92):sN n (b::t)=wX (b::t):=aTD h
theorem KQ {n:Int}{b:UInt8}{t:List UInt8}(h:b≠92) (hb:AC n b=true):sN n (b::t)=([b],0):=(aTG h).trans (aTD hb)
theorem NF {n:Int}{b:UInt8}{t:List UInt8}(h:b≠92) (hb: ¬AC n b=true):sN n (b::t)=([b],1):=(aTG h).trans (aTG hb)
theorem R6 (n:Int) (l:List UInt8):(sN n l).1.length<=4/\(sN n l).2<=l.length:=by
 cases l with
 |nil=>exact⟨by simp [sN],by simp [sN]⟩
 |cons b t=>
  by_cases h:b=92
  ·rw[NE h];exact aOb _
  ·by_cases hb:AC n b=true
   ·rw[KQ h hb];exact⟨by simp,by simp⟩
   ·rw[NF h hb];exact⟨by simp,by simp⟩
def wJ (n:Int):Nat->List UInt8->List UInt8⊕Nat
 |0,_=> .inl []
 |_+1,[]=> .inl []
 |k+1,b::t=>if (sN n (b::t)).2=0 then .inr 0 else match wJ n k ((b::t).drop (sN n (b::t)).2) with
  | .inl r=> .inl ((sN n (b::t)).1++r)
  | .inr e=> .inr ((sN n (b::t)).2+e)
def yO (n:Int) (s:List UInt8):List UInt8×Int×Int:=match wJ n s.length s with
 | .inl r=>(r,0,0)
 | .inr e=>([],e,3)
theorem WI (a b:List UInt8):sJ (a++b)=sJ a++sJ b:=by simp [sJ]
theorem WJ (a:List UInt8):s5 (sJ a)=a:=by
 unfold s5 sJ;rw[List.map_map]
 conv=>rhs;rw[<-List.map_id a]
 congr 1;funext b;simp
theorem aHb {s:List UInt8}{i:Nat}(h:i<s.length):pT s (i:Int) ((i:Int)+1)=[s[i]]:=by
 unfold pT;rw[aUv,show ((i:Int)+1).toNat-i=1 by omega,aT2 h];rfl
theorem aOc {n:Int}(h1:1<=n) (h3:n<=3) {s:List UInt8}(hs:pS s) {x:List Int}{i:Nat}(hi:i<s.length) (hx:x.length<=10000000000000):
  QO n s (x,(i:Int))=if (sN n (s.drop i)).2=0 then some (.inr (.inr ([],(i:Int),3))) else some (.inl (x++sJ (sN n (s.drop i)).1,((i+(sN n (s.drop i)).2:Nat):Int))):=by
 have hs':=hs;unfold pS at hs';have hn4:decide (n=4)=false:=by simp;omega
 have hp:=R6 n (s.drop i);rw[aTR] at hp;unfold QO;dsimp only;rw[aTD (sX hi),aTD (rR hi),aTD (sC (by omega)),aTD ⟨by omega,by omega,by omega⟩,yD hi,aHb hi,FE,uS (n:=92) 92 rfl,uS (n:=38) 38 rfl,uS (n:=10) 10 rfl,uS (n:=34) 34 rfl,hn4];have hb: ∀v:List UInt8×Nat,v.1.length<=4->v.2<=s.length-i->
   ((if decide ((v.2:Int)=0)=true then(some (.inr (.inr (([]:List UInt8),(i:Int),(3:Int)))):Option ((List Int×Int)⊕(List Int⊕(List UInt8×Int×Int)))) else if x.length+v.1.length<=140737488355328 then if pE ((i:Int)+(v.2:Int)) then some (.inl ((x++sJ v.1),((i:Int)+(v.2:Int)))) else none else none)=if v.2=0 then some (.inr (.inr ([],(i:Int),3))) else some (.inl (x++sJ v.1,((i+v.2:Nat):Int)))):=fun v hv1 hv2=>by
  by_cases h0:v.2=0
  ·rw[aTD (by simp [h0]),aTD h0]
  ·rw[aTG (by simpa using h0),aTG h0,aTD (by omega),aTD (by unfold pE;omega)];rfl
 rw[aT2 hi] at hp⊢;simp only[Bool.not_false,Bool.true_and,aVx,aUU,aVU];by_cases c1:s[i]=92
 ·rw[NE c1] at hp⊢;rw[aTD (by simpa using c1),aTD ⟨by omega,by omega,aUq _⟩,aN9];unfold rH;simp only[aTC];exact hb _ hp.1 hp.2
 ·rw[aTG (by simpa using c1)];by_cases c2:s[i]=10
  ·rw[aTD (by simpa using c2),aTD (by simpa using c2),KQ c1 (show AC n s[i]=true by simp [AC,c2])];unfold rH;simp only[aTC];exact hb ([s[i]],0) (by simp) (by simp)
  ·rw[aTG (by simpa using c2)];by_cases c3:((decide (n=2)||decide (n=3))&&decide (s[i]=34))=true
   ·rw[aTD c3,aTD c3,KQ c1 (show AC n s[i]=true by unfold AC;rw[c3];simp)];unfold rH;simp only[aTC];exact hb ([s[i]],0) (by simp) (by simp)
   ·have hbad:AC n s[i]=false:=by
     have c3':((decide (n=2)||decide (n=3))&&decide (s[i]=34))=false:=by simpa using c3
     unfold AC;rw[c3'];simp [c2]
    have hbad': ¬AC n s[i]=true:=by simp [hbad]
    rw[NF c1 hbad'] at hp⊢;rw[aTG c3,aTD (fun h=>by simp at h)];unfold rH;simp only[aTC];exact hb ([s[i]],1) (by simp) hp.2
theorem aOd {n:Int}(h1:1<=n) (h3:n<=3) (b:UInt8):K0 n (b.toNat:Int)=AC n b:=by
 unfold K0 AC rM;rw[uS (n:=10) 10 rfl,uS (n:=34) 34 rfl];by_cases c1:n=1
 ·subst c1;simp
 ·have h23:n=2\/n=3:=by omega
  rcases h23 with rfl|rfl<;>simp
theorem aOe {x:List Int}{c:Int}(hx:x.length<=10000000000000):K1 (x,()) c=some ():=by
 unfold K1;exact aTD (by simp only[aUl,aVO];omega)
theorem aOf {x:List Int}{t:List UInt8}(hx:x.length<=10000000000000) (ht:t.length<=4000000000):CV (x,()) t=some ():=by
 unfold CV;exact aTD (by dsimp only;omega)
theorem aOg {n:Int}(h1:1<=n) (h3:n<=3) {s:List UInt8}(hs:pS s) {x:List Int}{i:Nat}(hi:i<s.length) (hx:x.length<=10000000000000):
  N4 n s ((i:Int),x)=if (sN n (s.drop i)).2=0 then some (.inr (.inr ([],(i:Int),3))) else some (.inl (((i+(sN n (s.drop i)).2:Nat):Int),x++sJ (sN n (s.drop i)).1)):=by
 have hs':=hs;unfold pS at hs';have hp:=R6 n (s.drop i);rw[aTR] at hp;unfold N4;dsimp only;rw[aTD (sX hi),aTD (rR hi),yD hi,FE,uS (n:=92) 92 rfl,aOd h1 h3];rw[aT2 hi] at hp⊢;by_cases c1:s[i]=92
 ·rw[NE c1] at hp⊢;rw[aTD (by simpa using c1),aTD ⟨by omega,by omega,aUq _⟩,aOa];simp only[aTC];by_cases h0:(wX (s[i]::s.drop (i+1))).2=0
  ·rw[aTD (by rw[h0];rfl),aTD h0]
  ·rw[aTG (by rw[aTK];omega),aTG h0,aOf hx (by omega)];simp only[aTC];rw[aTD (by unfold pE;omega)];rfl
 ·rw[aTG (by simpa using c1),aTD (rR hi)];by_cases hb:AC n s[i]=true
  ·rw[aTD hb,KQ c1 hb];rfl
  ·rw[aTG hb,NF c1 hb,aTD (rR hi),aOe hx,aTC];rw[aTD (sC (by omega))];rfl
theorem aHc {n:Int}(h1:1<=n) (h3:n<=3) {s:List UInt8}(hs:pS s): ∀(k i:Nat) (x:List Int),i<=s.length->s.length-i<=k->x.length+4*(s.length-i)<=5000000000000->
  qB (QO n s) (x,(i:Int))=some (match wJ n k (s.drop i) with| .inl r=> .inl (x++sJ r) | .inr e=> .inr ([],((i+e:Nat):Int),3))
 |k,i,x,hi,hk,hx=>by
  by_cases hlt:i<s.length
  ·cases k with
   |zero=>omega
   |succ k=>
    have hp:=R6 n (s.drop i);rw[xV,aOc h1 h3 hs hlt (by omega)];rw[aTR] at hp;have hu:wJ n (k+1) (s.drop i)=if (sN n (s.drop i)).2=0 then .inr 0 else match wJ n k ((s.drop i).drop (sN n (s.drop i)).2) with
      | .inl r=> .inl ((sN n (s.drop i)).1++r)
      | .inr e=> .inr ((sN n (s.drop i)).2+e):=by
     rw[aT2 hlt,wJ]
    rw[hu];by_cases h0:(sN n (s.drop i)).2=0
    ·rw[aTD h0,aTD h0];rfl
    ·rw[aTG h0,aTG h0];show qB _ (_,((i+(sN n (s.drop i)).2:Nat):Int))=_;rw[aHc h1 h3 hs k _ _ (by omega) (by omega) (by rw[aTH];simp only[sJ,aVJ];omega),aUs];cases wJ n k (s.drop (i+(sN n (s.drop i)).2)) with
     |inl r=>dsimp only;rw[WI,aTN]
     |inr e=>dsimp only;rw[aUn]
  ·have:i=s.length:=by omega
   subst this;rw[vA (r:= .inl x) (by unfold QO;simp),aUk];cases k<;>simp [wJ,sJ]
theorem aHd {n:Int}(h1:1<=n) (h3:n<=3) {s:List UInt8}(hs:pS s): ∀(k i:Nat) (x:List Int),i<=s.length->s.length-i<=k->x.length+4*(s.length-i)<=5000000000000->
  qB (N4 n s) ((i:Int),x)=some (match wJ n k (s.drop i) with| .inl r=> .inl (x++sJ r) | .inr e=> .inr ([],((i+e:Nat):Int),3))
 |k,i,x,hi,hk,hx=>by
  by_cases hlt:i<s.length
  ·cases k with
   |zero=>omega
   |succ k=>
    have hp:=R6 n (s.drop i);rw[xV,aOg h1 h3 hs hlt (by omega)];rw[aTR] at hp;have hu:wJ n (k+1) (s.drop i)=if (sN n (s.drop i)).2=0 then .inr 0 else match wJ n k ((s.drop i).drop (sN n (s.drop i)).2) with
      | .inl r=> .inl ((sN n (s.drop i)).1++r)
      | .inr e=> .inr ((sN n (s.drop i)).2+e):=by
     rw[aT2 hlt,wJ]
    rw[hu];by_cases h0:(sN n (s.drop i)).2=0
    ·rw[aTD h0,aTD h0];rfl
    ·rw[aTG h0,aTG h0];show qB _ (((i+(sN n (s.drop i)).2:Nat):Int),_)=_;rw[aHd h1 h3 hs k _ _ (by omega) (by omega) (by rw[aTH];simp only[sJ,aVJ];omega),aUs];cases wJ n k (s.drop (i+(sN n (s.drop i)).2)) with
     |inl r=>dsimp only;rw[WI,aTN]
     |inr e=>dsimp only;rw[aUn]
  ·have:i=s.length:=by omega
   subst this;rw[vA (r:= .inl x) (by unfold N4;simp),aUk];cases k<;>simp [wJ,sJ]
theorem aOh {n:Int}(h1:1<=n) (h3:n<=3) {s:List UInt8}(hs:pS s):QP n s=some (yO n s):=by
 unfold QP;have hs':=hs;unfold pS at hs';rw[aTG (by simp;omega),show (([]:List Int),(0:Int))=(([]:List Int),((0:Nat):Int)) from rfl,aHc h1 h3 hs s.length 0 [] (by omega) (by omega) (by simp;omega),aUO];unfold yO;cases wJ n s.length s with
 |inl r=>
  show some (s5 ([]++sJ r),(0:Int),(0:Int))=_;rw[List.nil_append,WJ]
 |inr e=>
  show some (([]:List UInt8),((0+e:Nat):Int),(3:Int))=_;rw[aUg]
theorem aOi {n:Int}(h1:1<=n) (h3:n<=3) {s:List UInt8}(hs:pS s):FC n s=some (yO n s):=by
 unfold FC;have hs':=hs;unfold pS at hs';rw[aTG (by simp;omega),aTG (by simp;omega),show ((0:Int),([]:List Int))=(((0:Nat):Int),([]:List Int)) from rfl,aHd h1 h3 hs s.length 0 [] (by omega) (by omega) (by simp;omega),aUO];unfold yO;cases wJ n s.length s with
 |inl r=>
  show some (s5 ([]++sJ r),(0:Int),(0:Int))=_;rw[List.nil_append,WJ]
 |inr e=>
  show some (([]:List UInt8),((0+e:Nat):Int),(3:Int))=_;rw[aUg]
def vC (b:UInt8):Bool:=((decide (b=32)||decide (b=9))||decide (b=10))||decide (b=13)
def tO (x y:UInt8):List UInt8->Bool
 |b::c::_=>decide (b=x)&&decide (c=y)
 |_=>false
def vT (l:List UInt8):Nat:=(l.findIdx? fun b=>decide (b=10)).getD l.length
def xI:List UInt8->Option Nat
 |[]=>none
 |b::t=>if tO 42 47 (b::t)=true then some 0 else(xI t).map (· +1)
def D0 (n:Nat) (g:Nat×Bool):Nat×Bool:=(n+g.1,g.2)
def yP:Nat->List UInt8->Nat×Bool
 |0,_=>(0,true)
 |_+1,[]=>(0,true)
 |k+1,b::t=>
  if vC b=true then D0 1 (yP k t)
  else if tO 47 47 (b::t)=true then D0 (vT (b::t)) (yP k ((b::t).drop (vT (b::t))))
  else if tO 47 42 (b::t)=true then match xI ((b::t).drop 2) with
   |none=>(0,false)
   |some e=>D0 (e+4) (yP k ((b::t).drop (e+4)))
  else(0,true)
def G (l:List UInt8):Nat×Bool:=yP l.length l
theorem R7 {l:List UInt8}(h:tO 47 47 l=true):2<=vT l/\vT l<=l.length:=by
 unfold tO at h;split at h
 ·rename_i b c t;simp only[aTL,aTK] at h;obtain⟨rfl,rfl⟩:=h;unfold vT;rw[aUI,aTG (by decide),aUI,aTG (by decide)];cases h:t.findIdx? fun b=>decide (b=10) with
  |none=>simp
  |some k=>
   have:=(aUf.1 h).1;simp;omega
 ·cases h
theorem WK: ∀{l:List UInt8}{e:Nat},xI l=some e->e+2<=l.length
 |[],_,h=>by cases h
 |b::t,e,h=>by
  unfold xI at h;split at h
  ·rename_i hb;cases h;cases t with
   |nil=>simp [tO] at hb
   |cons c t=>simp
  ·cases hc:xI t with
   |none=>rw[hc] at h;cases h
   |some e'=>
    rw[hc] at h;obtain rfl:e'+1=e:=aTI h;have:=WK hc;simp only[aTJ];omega
theorem WL: ∀(n k k':Nat) (l:List UInt8),l.length<=n->l.length<=k->l.length<=k'->yP k l=yP k' l
 |n,k,k',[],_,_,_=>by cases k<;>cases k'<;>rfl
 |0,_,_,b::t,h,_,_=>by simp at h
 |n+1,0,_,b::t,_,h,_=>by simp at h
 |n+1,_,0,b::t,_,_,h=>by simp at h
 |n+1,k+1,k'+1,b::t,h,h1,h2=>by
  simp only[aTJ] at h h1 h2;unfold yP;split
  ·rw[WL n k k' t (by omega) (by omega) (by omega)]
  ·split
   ·rename_i hb;have:=R7 hb;rw[WL n k k' _ (by rw[aTR];simp only[aTJ];omega) (by rw[aTR];simp only[aTJ];omega) (by rw[aTR];simp only[aTJ];omega)]
   ·split
    ·cases hc:xI ((b::t).drop 2) with
     |none=>rfl
     |some e=>
      dsimp only;rw[WL n k k' _ (by rw[aTR];simp only[aTJ];omega) (by rw[aTR];simp only[aTJ];omega) (by rw[aTR];simp only[aTJ];omega)]
    ·rfl
theorem aHe {k:Nat}{l:List UInt8}(h:l.length<=k):yP k l=G l:=WL l.length k l.length l (aTZ _) h (aTZ _)
theorem NH {b:UInt8}{t:List UInt8}(h:vC b=true):G (b::t)=D0 1 (G t):=by
 show yP (t.length+1) (b::t)=_;unfold yP;rw[aTD h];rfl
theorem WM {b:UInt8}{t:List UInt8}(h: ¬vC b=true) (h1:tO 47 47 (b::t)=true):G (b::t)=D0 (vT (b::t)) (G ((b::t).drop (vT (b::t)))):=by
 have:=R7 h1;show yP (t.length+1) (b::t)=_;unfold yP;rw[aTG h,aTD h1,aHe (by rw[aTR];simp only[aTJ];omega)]
theorem WN {b:UInt8}{t:List UInt8}(h: ¬vC b=true) (h1: ¬tO 47 47 (b::t)=true) (h2:tO 47 42 (b::t)=true) (hc:xI ((b::t).drop 2)=none):G (b::t)=(0,false):=by
 show yP (t.length+1) (b::t)=_;unfold yP;rw[aTG h,aTG h1,aTD h2,hc]
theorem WO {b:UInt8}{t:List UInt8}{e:Nat}(h: ¬vC b=true) (h1: ¬tO 47 47 (b::t)=true) (h2:tO 47 42 (b::t)=true) (hc:xI ((b::t).drop 2)=some e):G (b::t)=D0 (e+4) (G ((b::t).drop (e+4))):=by
 show yP (t.length+1) (b::t)=_;unfold yP;rw[aTG h,aTG h1,aTD h2,hc];dsimp only;rw[aHe (by rw[aTR];simp only[aTJ];omega)]
theorem R9 {b:UInt8}{t:List UInt8}(h: ¬vC b=true) (h1: ¬tO 47 47 (b::t)=true) (h2: ¬tO 47 42 (b::t)=true):G (b::t)=(0,true):=by
 show yP (t.length+1) (b::t)=_;unfold yP;rw[aTG h,aTG h1,aTG h2]
theorem NI: ∀(n:Nat) (l:List UInt8),l.length<=n->(G l).1<=l.length
 |_,[],_=>aTZ _
 |0,_::_,h=>by simp at h
 |n+1,b::t,h=>by
  simp only[aTJ] at h⊢;by_cases h0:vC b=true
  ·rw[NH h0];have:=NI n t (by omega);show 1+_<=_;omega
  ·by_cases h1:tO 47 47 (b::t)=true
   ·rw[WM h0 h1];have hl:=R7 h1;have:=NI n ((b::t).drop (vT (b::t))) (by rw[aTR];simp only[aTJ] at hl⊢;omega);rw[aTR] at this;simp only[aTJ] at this hl;show vT _+_<=_;omega
   ·by_cases h2:tO 47 42 (b::t)=true
    ·cases hc:xI ((b::t).drop 2) with
     |none=>rw[WN h0 h1 h2 hc];exact aUC _
     |some e=>
      rw[WO h0 h1 h2 hc];have he:=WK hc;have:=NI n ((b::t).drop (e+4)) (by rw[aTR];simp only[aTJ];omega);rw[aTR] at this he;simp only[aTJ] at this he;show e+4+_<=_;omega
    ·rw[R9 h0 h1 h2];exact aUC _
theorem WP {s:List UInt8}{i:Nat}(hi:i<=s.length) (x y:UInt8):((decide ((([x,y]:List UInt8).length:Int)<=((s.length:Int)- (i:Int))))&&(decide ((pT s (i:Int) ((i:Int)+(([x,y]:List UInt8).length:Int)))=([x,y]:List UInt8))))=tO x y (s.drop i):=by
 have hc:pT s (i:Int) ((i:Int)+(([x,y]:List UInt8).length:Int))=(s.drop i).take 2:=by
  unfold pT;rw[aUv];congr 1;show ((i:Int)+2).toNat-i=2;omega
 have hl:(s.drop i).length=s.length-i:=aTR;rw[hc];generalize s.drop i=r at hl
 match r,hl with
 |[],hl=>simp only[aT0] at hl;rw[show decide ((([x,y]:List UInt8).length:Int)<=((s.length:Int)- (i:Int)))=false by simp only[aTJ,aT0,aUh];omega];rfl
 |[b],hl=>simp only[aTJ,aT0] at hl;rw[show decide ((([x,y]:List UInt8).length:Int)<=((s.length:Int)- (i:Int)))=false by simp only[aTJ,aT0,aUh];omega];rfl
 |b::c::t,hl=>
  simp only[aTJ] at hl;rw[show decide ((([x,y]:List UInt8).length:Int)<=((s.length:Int)- (i:Int)))=true by simp;omega,Bool.true_and];show decide ([b,c]=[x,y])=_;unfold tO;rw[aUH];simp
theorem a8z {s:List UInt8}(hs:pS s) {i:Nat}(hi:i<=s.length) (x y:UInt8):MC s (i:Int) [x,y]=some ():=by
 unfold pS at hs;have h2:((([x,y]:List UInt8).length:Nat):Int)=2:=rfl;unfold MC;rw[h2,aTD (by unfold pE;omega),aTD (fun _=>by unfold pE;omega),aTD];intro h;simp only[aVT,aTK] at h;omega
theorem aHf (r:List UInt8) (x y:UInt8):((decide ((([x,y]:List UInt8).length:Int)<=(r.length:Int)))&&(decide ((pT r (0:Int) (([x,y]:List UInt8).length:Int))=([x,y]:List UInt8))))=tO x y r:=by
 have:=WP (s:=r) (i:=0) (aUC _) x y;rw[aUO,show ((0:Nat):Int)=0 from rfl,Int.sub_zero,Int.zero_add] at this;exact this
theorem aHg (r:List UInt8) (x y:UInt8):K7 r [x,y]=some ():=by
 have h2:((([x,y]:List UInt8).length:Nat):Int)=2:=rfl;unfold K7 MH;rw[h2,aTD]
 ·rfl
 ·intro h;simp only[aVT,aTK] at h;exact⟨aUq _,by decide,h⟩
theorem aHh (x y:UInt8):(x==y)=decide (y=x):=by
 by_cases h:y=x
 ·subst h;rw[beq_self_eq_true,aUM rfl]
 ·rw[decide_eq_false h,beq_eq_false_iff_ne];exact fun e=>h e.symm
theorem aHi {o:Option Nat}:(if (EC o== -1)=true then(-1:Int) else EC o+1)=EC (o.map (· +1)):=by
 cases o with
 |none=>rfl
 |some k=>
  show (if ((k:Int)== -1)=true then(-1:Int) else(k:Int)+1)=((k+1:Nat):Int);rw[aTG (by rw[aVT];omega)];rfl
theorem aHj: ∀(l:List UInt8),Lib.indexByte l 10=EC (l.findIdx? fun b=>decide (b=10))
 |[]=>rfl
 |b::t=>by
  rw[Lib.indexByte,aUI,aHj t,aHh,aHi];by_cases h:b=10
  ·subst h;rfl
  ·rw[aTG (by simpa using fun e=>h (Eq.symm e)),aTG (by simpa using h)]
theorem aHk: ∀(l:List UInt8),Lib.index l [42,47]=EC (xI l)
 |[]=>rfl
 |b::t=>by
  rw[Lib.index,xI,aHk t,aHi];have hp:([42,47]:List UInt8).isPrefixOf (b::t)=tO 42 47 (b::t):=by
   cases t with
   |nil=>simp only[List.isPrefixOf,Bool.and_false,tO]
   |cons c t=>simp only[List.isPrefixOf,Bool.and_true,tO,aHh]
  rw[hp];by_cases h:tO 42 47 (b::t)=true
  ·rw[aTD h,aTD h];rfl
  ·rw[aTG h,aTG h]
theorem aOj {s:List UInt8}(hs:pS s) {i:Nat}(hi:i<=s.length):qB (Q4 s) (i:Int)=some ((i+vT (s.drop i):Nat):Int):=by
 have hs':=hs;unfold pS at hs';have h:=VZ (f:=Q4 s) (l:=s) (fun b=> !decide (b=10)) (fun i h=>by
  unfold Q4;rw[aTD (fun _=>rR h),sX h,Bool.true_and,yD h,uS (n:=10) 10 rfl,aTD (sC (by omega))]) (by
  unfold Q4;have hF:decide ((s.length:Int)<(s.length:Int))=false:=by simp
  rw[hF,aTD (fun h=>by simp at h),aVx,aTG (by decide)]) (s.length-i) i (by omega)
 rw[h];unfold vT;simp only[Bool.not_not,aTR]
theorem aOk {s:List UInt8}{i:Nat}(h:i<s.length):xI (s.drop i)=if tO 42 47 (s.drop i)=true then some 0 else(xI (s.drop (i+1))).map (· +1):=by
 rw[aT2 h,xI]
def a8A (i n:Nat):Option Nat->Int
 |some e=>(i:Int)+(e:Int)
 |none=>(n:Int)
theorem aHl {s:List UInt8}(hs:pS s): ∀(n i:Nat),i+n=s.length->qB (Q5 s) (i:Int)=some (a8A i s.length (xI (s.drop i)))
 |0,i,h=>by
  have:i=s.length:=by omega
  subst this;have hF:decide ((s.length:Int)<(s.length:Int))=false:=by simp
  rw[vA (r:=(s.length:Int)) (by unfold Q5;rw[hF,aTD (fun h=>by simp at h),aVx,aTG (by decide)]),aUk];rfl
 |n+1,i,h=>by
  have hlt:i<s.length:=by omega
  have hs':=hs;unfold pS at hs';rw[xV,aOk hlt];unfold Q5;rw[a8z hs (by omega),WP (by omega),sX hlt,Bool.true_and,aTD (show ((true==true)=true->(some ()).isSome=true) from fun _=>rfl)];by_cases hb:tO 42 47 (s.drop i)=true
  ·rw[aTG (by rw[hb];decide),aTD hb];show some ((i:Int))=some ((i:Int)+((0:Nat):Int));rw[show ((i:Int)+((0:Nat):Int))=(i:Int) by omega]
  ·rw[aTD (by simpa using hb),aTD (sC (by omega)),aTG hb];show qB (Q5 s) ((i+1:Nat):Int)=_;rw[aHl hs n (i+1) (by omega)];cases xI (s.drop (i+1)) with
   |none=>rfl
   |some e=>
    show some ((((i+1:Nat)):Int)+(e:Int))=some ((i:Int)+(((e+1:Nat)):Int));rw[show (((i+1:Nat)):Int)+(e:Int)=(i:Int)+(((e+1:Nat)):Int) by omega]
theorem wsE (b:UInt8):((((decide ((b.toNat:Int)=(32:Int)))||(decide ((b.toNat:Int)=(9:Int))))||(decide ((b.toNat:Int)=(10:Int))))||(decide ((b.toNat:Int)=(13:Int))))=vC b:=by
 rw[uS (n:=32) 32 rfl,uS (n:=9) 9 rfl,uS (n:=10) 10 rfl,uS (n:=13) 13 rfl];rfl
theorem aHm {s:List UInt8}{i:Nat}(h:tO 47 42 (s.drop i)=true):i+2<=s.length:=by
 have hl:(s.drop i).length=s.length-i:=aTR;unfold tO at h;split at h
 ·rename_i b c t he;rw[he] at hl;simp only[aTJ] at hl;omega
 ·cases h
theorem WQ {s:List UInt8}(hs:pS s): ∀(n i:Nat),i<=s.length->s.length-i<=n->rW (qB (K6 s) (i:Int)) (fun x=>some x)=some ((i+(G (s.drop i)).1:Nat):Int)
 |n,i,hi,hn=>by
  have hs':=hs;unfold pS at hs';by_cases hlt:i<s.length
  ·cases n with
   |zero=>omega
   |succ n=>
    have hd:=aT2 hlt;rw[xV];unfold K6;rw[aTD (sX hlt),aTD (rR hlt),aTD (fun _=>rR hlt),aTD (fun _=>rR hlt),aTD (fun _=>rR hlt),yD hlt,wsE];by_cases h0:vC s[i]=true
    ·rw[aTD h0,aTD (sC (by omega)),hd,NH h0];show rW (qB (K6 s) ((i+1:Nat):Int)) _=_;rw[WQ hs n (i+1) (by omega) (by omega)];show _=some (((i+(1+(G (s.drop (i+1))).1):Nat)):Int);rw[show i+1+(G (s.drop (i+1))).1=i+(1+(G (s.drop (i+1))).1) by omega]
    ·rw[aTG h0,a8z hs hi,aTC,WP hi];by_cases h1:tO 47 47 (s.drop i)=true
     ·have hl:=R7 h1;rw[aTR] at hl;rw[aTD h1,aOj hs hi];unfold rH;rw[aTC];show rW (qB (K6 s) ((i+vT (s.drop i):Nat):Int)) _=_;rw[WQ hs n (i+vT (s.drop i)) (by omega) (by omega)];have hg:G (s.drop i)=D0 (vT (s.drop i)) (G ((s.drop i).drop (vT (s.drop i)))):=by
       rw[hd] at h1⊢;exact WM h0 h1
      rw[hg,aUs];show _=some (((i+(vT (s.drop i)+(G (s.drop (i+vT (s.drop i)))).1):Nat)):Int);rw[aUn]
     ·rw[aTG h1,a8z hs hi,aTC,WP hi];by_cases h2:tO 47 42 (s.drop i)=true
      ·have h2l:=aHm h2;rw[aTD h2,aTD (by unfold pE;omega),show ((i:Int)+2)=((i+2:Nat):Int) by omega,aHl hs (s.length- (i+2)) (i+2) (by omega)];unfold rH;rw[aTC];cases hc:xI (s.drop (i+2)) with
       |none=>
        rw[show a8A (i+2) s.length none=(s.length:Int) from rfl,aTD (by simp)];have hg:G (s.drop i)=(0,false):=by
         rw[hd] at h1 h2⊢;exact WN h0 h1 h2 (by rw[<-hd,aUs];exact hc)
        rw[hg];rfl
       |some e=>
        have he:=WK hc;rw[aTR] at he;have hz:a8A (i+2) s.length (some e)=(i:Int)+2+(e:Int):=by
         show (((i+2:Nat)):Int)+(e:Int)=_;omega
        rw[hz,aTG (by rw[aTK];omega),aTD (by unfold pE;omega)];have hg:G (s.drop i)=D0 (e+4) (G ((s.drop i).drop (e+4))):=by
         rw[hd] at h1 h2⊢;exact WO h0 h1 h2 (by rw[<-hd,aUs];exact hc)
        show rW (qB (K6 s) ((i:Int)+2+(e:Int)+2)) _=_;rw[show ((i:Int)+2+(e:Int)+2)=((i+(e+4):Nat):Int) by omega,WQ hs n (i+(e+4)) (by omega) (by omega),hg,aUs];show _=some (((i+(e+4+(G (s.drop (i+(e+4)))).1):Nat)):Int);rw[show i+(e+4+(G (s.drop (i+(e+4)))).1)=i+(e+4)+(G (s.drop (i+(e+4)))).1 by omega]
      ·rw[aTG h2];have hg:G (s.drop i)=(0,true):=by
        rw[hd] at h1 h2⊢;exact R9 h0 h1 h2
       rw[hg];rfl
  ·have:i=s.length:=by omega
   subst this;rw[vA (r:= .inl (s.length:Int)) (by unfold K6;rw[aTG (uM _)]),aUk];rfl
theorem RA {s:List UInt8}(hs:pS s) {i:Nat}(hi:i<=s.length):MR s (i:Int)=some ((i+(G (s.drop i)).1:Nat):Int):=by
 unfold MR;exact WQ hs (s.length-i) i hi (aTZ _)
theorem wsI (b:UInt8):decide ((0:Int)<=tK ([32,9,10,13]:List UInt8) (b.toNat:Int))=vC b:=by
 rw[sib,<-Lib.contains_iff_indexByte];unfold vC;rw[aUH];simp [or_assoc]
theorem aOn {t:List UInt8}:G (10::t)=D0 1 (G t):=NH rfl
theorem aOo {l:List UInt8}{k:Nat}(h:l.findIdx? (fun b=>decide (b=10))=some k):vT l=k/\k<l.length/\l.drop k=10::l.drop (k+1):=by
 obtain⟨hk,hp,_⟩:=aUf.1 h;refine⟨by unfold vT;rw[h];rfl,hk,?_⟩;rw[aT2 hk];simp only[aTK] at hp;rw[hp]
theorem aOp {l:List UInt8}(h:l.findIdx? (fun b=>decide (b=10))=none):vT l=l.length:=by unfold vT;rw[h];rfl
theorem RB {s:List UInt8}(hs:pS s) (j0:Int): ∀(n i:Nat),i<=s.length->s.length-i<=n->rW (qB (GQ (s,(j0,()))) (i:Int)) (fun x=>some (true,x))=some ((G (s.drop i)).2,((i+(G (s.drop i)).1:Nat):Int))
 |n,i,hi,hn=>by
  have hs':=hs;unfold pS at hs';by_cases hlt:i<s.length
  ·cases n with
   |zero=>omega
   |succ n=>
    have hd:=aT2 hlt;have hl:(s.drop i).length=s.length-i:=aTR;rw[xV];unfold GQ;dsimp only;rw[aTD (sX hlt),aTD ⟨by omega,by omega,aUq _⟩,FE,aTD ⟨aUq _,by omega⟩];have hb:pR (s.drop i) 0=(s[i].toNat:Int):=by
     rw[hd];exact yD (i:=0) (by simp only[aTJ];omega)
    rw[hb,wsI];by_cases h0:vC s[i]=true
    ·rw[aTD h0,aTD (sC (by omega)),hd,NH h0];show rW (qB (GQ (s,(j0,()))) ((i+1:Nat):Int)) _=_;rw[RB hs j0 n (i+1) (by omega) (by omega)];show _=some ((G (s.drop (i+1))).2,(((i+(1+(G (s.drop (i+1))).1):Nat)):Int));rw[show i+1+(G (s.drop (i+1))).1=i+(1+(G (s.drop (i+1))).1) by omega]
    ·rw[aTG h0,aHg,aTC,aHf];by_cases h1:tO 47 47 (s.drop i)=true
     ·have hg:G (s.drop i)=D0 (vT (s.drop i)) (G ((s.drop i).drop (vT (s.drop i)))):=by
       rw[hd] at h1⊢;exact WM h0 h1
      have hx:tK (s.drop i) 10=EC ((s.drop i).findIdx? fun b=>decide (b=10)):=aHj _;rw[aTD h1,hx];cases hf:(s.drop i).findIdx? fun b=>decide (b=10) with
      |none=>
       have hln:=aOp hf;rw[aTD (by decide),aTD (by unfold pE;omega),aTD (by unfold pE;omega),aTD (by unfold pE;omega),hl];show rW (qB (GQ (s,(j0,()))) _) _=_;rw[show ((i:Int)+(((s.length-i:Nat):Int)-1+1))=((s.length:Nat):Int) by omega,RB hs j0 n s.length (aTZ _) (by omega),hg,hln,aUk,aUk,hl];show some (true,((s.length+0:Nat):Int))=some (true,((i+(s.length-i+0):Nat):Int));rw[show s.length+0=i+(s.length-i+0) by omega]
      |some k=>
       obtain⟨hln,hk,hdk⟩:=aOo hf;rw[hl] at hk;show rW (Option.bind (if decide ((k:Int)<0)=true then _ else if pE ((k:Int)+1) then if pE ((i:Int)+((k:Int)+1)) then _ else _ else _) _) _=_;rw[aTG (by simp),aTD (sC (by omega)),aTD (by unfold pE;omega)];show rW (qB (GQ (s,(j0,()))) ((i:Int)+((k:Int)+1))) _=_;rw[show ((i:Int)+((k:Int)+1))=((i+(k+1):Nat):Int) by omega,RB hs j0 n (i+(k+1)) (by omega) (by omega),hg,hln,hdk,aOn,aUs];show some ((G (s.drop (i+(k+1)))).2,_)=some ((G (s.drop (i+(k+1)))).2,(((i+(k+(1+(G (s.drop (i+(k+1)))).1)):Nat)):Int));rw[show i+(k+(1+(G (s.drop (i+(k+1)))).1))=i+(k+1)+(G (s.drop (i+(k+1)))).1 by omega]
     ·rw[aTG h1,aHg,aTC,aHf];by_cases h2:tO 47 42 (s.drop i)=true
      ·have h2l:=aHm h2;have hcut:pT (s.drop i) 2 ((s.drop i).length:Int)=s.drop (i+2):=by
        rw[show ((2:Int))=((2:Nat):Int) from rfl,FE,aUs]
       rw[aTD h2,aTD ⟨by decide,by omega,aUq _⟩,hcut,aTD (by rw[aTR];omega),show M2 (s.drop (i+2)) [42,47]=EC (xI (s.drop (i+2))) from aHk _];cases hc:xI (s.drop (i+2)) with
       |none=>
        rw[aTD (by decide)];have hg:G (s.drop i)=(0,false):=by
         rw[hd] at h1 h2⊢;exact WN h0 h1 h2 (by rw[<-hd,aUs];exact hc)
        rw[hg];rfl
       |some e=>
        have he:=WK hc;rw[aTR] at he;have hg:G (s.drop i)=D0 (e+4) (G ((s.drop i).drop (e+4))):=by
         rw[hd] at h1 h2⊢;exact WO h0 h1 h2 (by rw[<-hd,aUs];exact hc)
        show rW (Option.bind (if decide ((e:Int)<0)=true then _ else if pE ((e:Int)+4) then if pE ((i:Int)+((e:Int)+4)) then _ else _ else _) _) _=_;rw[aTG (by simp),aTD (by unfold pE;omega),aTD (by unfold pE;omega)];show rW (qB (GQ (s,(j0,()))) ((i:Int)+((e:Int)+4))) _=_;rw[show ((i:Int)+((e:Int)+4))=((i+(e+4):Nat):Int) by omega,RB hs j0 n (i+(e+4)) (by omega) (by omega),hg,aUs];show _=some ((G (s.drop (i+(e+4)))).2,(((i+(e+4+(G (s.drop (i+(e+4)))).1):Nat)):Int));rw[show i+(e+4+(G (s.drop (i+(e+4)))).1)=i+(e+4)+(G (s.drop (i+(e+4)))).1 by omega]
      ·rw[aTG h2];have hg:G (s.drop i)=(0,true):=by
        rw[hd] at h1 h2⊢;exact R9 h0 h1 h2
       rw[hg];rfl
  ·have:i=s.length:=by omega
   subst this;rw[vA (r:= .inl (s.length:Int)) (by unfold GQ;rw[aTG (uM _)]),aUk];rfl
theorem aOq {s:List UInt8}(hs:pS s) {i:Nat}(hi:i<=s.length):IC (s,((i:Int),()))=some ((G (s.drop i)).2,((i+(G (s.drop i)).1:Nat):Int)):=by
 unfold IC;exact RB hs _ (s.length-i) i hi (aTZ _)
def y6 (c:Int):Bool:=((decide ((97:Int)≤c))&&(decide (c≤(122:Int))))||((decide ((65:Int)≤c))&&(decide (c≤(90:Int))))
def RC (c:Int):Bool:=((((y6 c)||((decide ((48:Int)≤c))&&(decide (c≤(57:Int)))))||(decide (c=(45:Int))))||(decide (c=(95:Int))))||(decide (c=(46:Int)))
def vN (b:UInt8):Bool:=RC b.toNat
def xJ (l:List UInt8):Nat:=(l.findIdx? fun b=> !vN b).getD l.length
theorem a8B (l:List UInt8):xJ l≤l.length:=by
  unfold xJ;cases h:l.findIdx? fun b=> !vN b with
  |none=>exact aTZ _
  |some k=>exact Nat.le_of_lt (aUf.1 h).1
def y7 (t:List UInt8):Int×List UInt8×Nat:=
  match sH 34 t with
  |none=>(0,[],0)
  |some n=>if (yO 3 (t.take n)).2.2≠0∨sA (yO 3 (t.take n)).1=false then(0,[],0) else(1,(yO 3 (t.take n)).1,n+2)
def uZ (r:List UInt8):Int×List UInt8×Nat:=
  match r with
  |[]=>(4,[],0)
  |b::t=>if b=123∨b=125 then(3,[b],1) else if b=34 then y7 t else if y6 b.toNat=true then(2,(b::t).take (xJ (b::t)),xJ (b::t)) else(0,[],0)
theorem NJ {b:UInt8}{t:List UInt8}(h:b=123∨b=125):uZ (b::t)=(3,[b],1):=aTD h
theorem NK {b:UInt8}{t:List UInt8}(h: ¬(b=123∨b=125)) (h2:b=34):uZ (b::t)=y7 t:=(aTG h).trans (aTD h2)
theorem NL {b:UInt8}{t:List UInt8}(h: ¬(b=123∨b=125)) (h2: ¬b=34) (h3:y6 b.toNat=true):uZ (b::t)=(2,(b::t).take (xJ (b::t)),xJ (b::t)):=(aTG h).trans ((aTG h2).trans (aTD h3))
theorem NM {b:UInt8}{t:List UInt8}(h: ¬(b=123∨b=125)) (h2: ¬b=34) (h3: ¬y6 b.toNat=true):uZ (b::t)=(0,[],0):=(aTG h).trans ((aTG h2).trans (aTG h3))
def tU (l:List UInt8):Int×List UInt8×Nat×Nat:=
  if (G l).2=true then((uZ (l.drop (G l).1)).1,(uZ (l.drop (G l).1)).2.1,(G l).1,(G l).1+(uZ (l.drop (G l).1)).2.2) else(0,[],(G l).1,(G l).1)
theorem RD: ∀(n:Nat) (l:List UInt8),l.length≤n→(G l).2=false→∃t,l.drop (G l).1=47::t
  |_,[],_,h=>by cases h
  |0,_::_,h,_=>by simp at h
  | n+1,b::t,hl,h=>by
    simp only[aTJ] at hl;by_cases h0:vC b=true
    · rw[NH h0] at h⊢
      obtain⟨u,hu⟩:=RD n t (by omega) h;refine⟨u,?_⟩;show (b::t).drop (1+(G t).1)=_;rw[Nat.add_comm,aVD];exact hu
    · by_cases h1:tO 47 47 (b::t)=true
      · rw[WM h0 h1] at h⊢
        have hp:=R7 h1;obtain⟨u,hu⟩:=RD n ((b::t).drop (vT (b::t))) (by rw[aTR];simp only[aTJ] at hp⊢;omega) h;refine⟨u,?_⟩;rw[aUs] at hu;exact hu
      · by_cases h2:tO 47 42 (b::t)=true
        · cases hc:xI ((b::t).drop 2) with
          | none=>
            rw[WN h0 h1 h2 hc];unfold tO at h2;split at h2
            · rename_i b' c' t' he
              simp only[aTL,aTK] at h2;exact⟨c'::t',by rw[he,h2.1];rfl⟩
            ·cases h2
          | some e=>
            rw[WO h0 h1 h2 hc] at h⊢;obtain⟨u,hu⟩:=RD n ((b::t).drop (e+4)) (by rw[aTR];simp only[aTJ];omega) h;refine⟨u,?_⟩;rw[aUs] at hu;exact hu
        ·rw[R9 h0 h1 h2] at h;cases h
theorem aOr (t:List UInt8):uZ (47::t)=(0,[],0):=by
  exact NM (by decide) (by decide) (by decide)
theorem aOs (t:List UInt8):(y7 t).2.2≤t.length+1:=by
  unfold y7;cases h:sH 34 t with
  |none=>exact aUC _
  | some n=>
    have:=R4 t.length t n (aTZ _) h;dsimp only;split
    ·exact aUC _
    ·show n+2≤_;omega
theorem aOt (r:List UInt8):(uZ r).2.2≤r.length:=by
  unfold uZ;split
  ·exact aUC _
  · rename_i b t
    split
    ·simp
    · split
      ·exact aOs t
      · split
        ·exact a8B _
        ·exact aUC _
theorem aOu (l:List UInt8):(tU l).2.2.1≤(tU l).2.2.2∧(tU l).2.2.2≤l.length:=by
  have h1:=NI l.length l (aTZ _);have h2:=aOt (l.drop (G l).1);rw[aTR] at h2;unfold tU;split
  ·dsimp only;omega
  ·dsimp only;omega
theorem aHn {s:List UInt8}(hs:pS s) (n:Nat):pS (s.drop n):=by unfold pS at*;rw[aTR];omega
theorem aHo {s:List UInt8}(hs:pS s) (n:Nat):pS (s.take n):=by unfold pS at*;rw[aT5];omega
def kR (k:Int):Int:=if k=4 then 0 else k
theorem aHp {α:Type}{l:List α}{a n:Nat}:pT l (a:Int) ((a:Int)+(n:Int))=(l.drop a).take n:=by
  unfold pT;rw[aUv];congr 1;omega
theorem aOv {s:List UInt8}(hs:pS s) {p:Nat}(hp:p≤s.length):qB (QQ s) (p:Int)=some ((p+xJ (s.drop p):Nat):Int):=by
  have hs':=hs;unfold pS at hs'
  have h:=VZ (f:=QQ s) (l:=s) (fun b=>vN b) (fun i h=>by
    unfold QQ;rw[aTD (fun _=>rR h),aTD (fun _=>rR h),aTD (fun _=>rR h),aTD (fun _=>rR h),aTD (fun _=>rR h),aTD (fun _=>rR h),sX h,Bool.true_and,yD h,aTD (sC (by omega))];rfl) (by
    unfold QQ;have hF:decide ((s.length:Int)<(s.length:Int))=false:=by simp
    rw[hF];simp only[aVx,show (false==true)=false from rfl,aUU,false_implies,aVg,aVU]) (s.length-p) p (by omega)
  rw[h];unfold xJ;rw[aTR]
theorem aOw (l:List UInt8):(wX l).2=0∨(wX l).1.length≤(wX l).2:=by
  unfold wX;split
  · rename_i a c t
    have h1:=WH (l:=t.take 2) (k:=4) (ok:=fun n=>decide (n≤127)) (f:=fun n=>s5 [n]) (fun n=>by simp [s5]);have h2:=WH (l:=t.take 4) (k:=6) (ok:=w9) (f:=Lib.encodeRune) a8u
    repeat' split
    all_goals first
      |exact .inl rfl
      |exact .inr (by simp)
      | (rcases h1.2 with e|e
         ·exact .inl e
         ·exact .inr (by rw[e];exact h1.1))
      | (rcases h2.2 with e|e
         ·exact .inl e
         ·exact .inr (by rw[e];have:=h2.1;omega))
  ·exact .inl rfl
theorem aOx (n:Int) (l:List UInt8):(sN n l).2=0∨(sN n l).1.length≤(sN n l).2:=by
  cases l with
  |nil=>exact .inl rfl
  | cons b t=>
    by_cases h:b=92
    ·rw[NE h];exact aOw _
    · by_cases hb:AC n b=true
      ·rw[KQ h hb];exact .inl rfl
      ·rw[NF h hb];exact .inr (by simp)
theorem aHq (n:Int): ∀(k:Nat) (l r:List UInt8),wJ n k l= .inl r→r.length≤l.length
  |0,_,_,h=>by cases h;simp
  |_+1,[],_,h=>by cases h;simp
  | k+1,b::t,r,h=>by
    rw[wJ] at h;split at h
    ·cases h
    · rename_i hz
      have hp:=(aOx n (b::t)).resolve_left hz;have hq:=(R6 n (b::t)).2;cases hu:wJ n k ((b::t).drop (sN n (b::t)).2) with
      | inl r'=>
        rw[hu] at h;cases h;have:=aHq n k _ r' hu;rw[aTR] at this;rw[aTH];omega
      |inr e=>rw[hu] at h;cases h
theorem a8C (n:Int) (s:List UInt8):(yO n s).1.length≤s.length:=by
  unfold yO;cases h:wJ n s.length s with
  |inl r=>exact aHq n _ _ _ h
  |inr e=>simp
theorem KR {s:List UInt8}(h:s.length≤4000000000):pS s:=by unfold pS;omega
theorem aOy {s:List UInt8}(hsm:s.length≤4000000000) {i:Nat}(hi:i≤s.length):
    N2 s (i:Int)=some (kR (tU (s.drop i)).1,(tU (s.drop i)).2.1,((i+(tU (s.drop i)).2.2.1:Nat):Int),((i+(tU (s.drop i)).2.2.2:Nat):Int)):=by
  have hs:=KR hsm;have hgl:=NI (s.drop i).length (s.drop i) (aTZ _);rw[aTR] at hgl;unfold N2;rw[RA hs hi,aTC];obtain⟨p,hp⟩: ∃p,i+(G (s.drop i)).1=p:=⟨_,rfl⟩;have hdp:(s.drop i).drop (G (s.drop i)).1=s.drop p:=by rw[aUs,hp]
  have hpl:p≤s.length:=by omega
  have hspec: ∀k t n,uZ (s.drop p)=(k,t,n)→(kR (tU (s.drop i)).1,(tU (s.drop i)).2.1,((i+(tU (s.drop i)).2.2.1:Nat):Int),((i+(tU (s.drop i)).2.2.2:Nat):Int))=(kR k,t,(p:Int),((p+n:Nat):Int)):=by
    intro k t n hk;unfold tU;by_cases hg:(G (s.drop i)).2=true
    · rw[aTD hg,hdp,hk]
      dsimp only;rw[←aUn,hp]
    · rw[aTG hg]
      obtain⟨u,hu⟩:=RD _ (s.drop i) (aTZ _) (by simpa using hg);rw[hdp] at hu;rw[hu,aOr] at hk;cases hk;dsimp only;rw[hp];rfl
  rw[hp];by_cases hend:p=s.length
  · have hnil:s.drop p=[]:=by rw[hend,aUk]
    rw[aTD (by rw[hend];simp),hspec 4 [] 0 (by rw[hnil];rfl)];rfl
  · have hlt:p<s.length:=by omega
    have hd:=aT2 hlt;rw[aTG (by simp;omega),aTD (rR hlt),yD hlt,uS (n:=123) 123 rfl,uS (n:=125) 125 rfl,uS (n:=34) 34 rfl];by_cases h1:s[p]=123∨s[p]=125
    · have hz:pT s (p:Int) ((p:Int)+1)=[s[p]]:=aHb hlt
      rw[aTD (by simpa using h1),aTD (sC (by omega)),aTD ⟨by omega,by omega,by omega⟩,aTD (sC (by omega)),hz,hspec 3 [s[p]] 1 (by rw[hd];exact NJ h1)];rfl
    · rw[aTG (by simpa using h1)]
      by_cases h2:s[p]=34
      · have hct:pT s ((p:Int)+1) (s.length:Int)=s.drop (p+1):=by
          rw[show ((p:Int)+1)=((p+1:Nat):Int) by omega,FE]
        have hA:uZ (s.drop p)=y7 (s.drop (p+1)):=by rw[hd];exact NK h1 h2
        rw[aTD (by simpa using h2),aTD (sC (by omega)),aTD ⟨by omega,by omega,aUq _⟩,hct,show ((34:Int))=((34:UInt8).toNat:Int) from rfl,aG2 (by decide) (by decide) _ _ (aHn hs _),aTC];unfold y7 at hA;cases he:sH 34 (s.drop (p+1)) with
        | none=>
          rw[he] at hA;rw[aTD (by decide),hspec 0 [] 0 hA];rfl
        | some k=>
          rw[he] at hA;dsimp only at hA;have hk:=R4 _ _ _ (aTZ _) he;rw[aTR] at hk
          have hcm:pT s ((p:Int)+1) ((p:Int)+1+(k:Int))=(s.drop (p+1)).take k:=by
            rw[show ((p:Int)+1)=((p+1:Nat):Int) by omega,aHp]
          have hft:pS ((s.drop (p+1)).take k):=aHo (aHn hs _) _;show (if decide ((k:Int)<0)=true then _ else if pE ((p:Int)+1) then if pE ((p:Int)+1) then if pE ((p:Int)+1+(k:Int)) then if 0≤(p:Int)+1∧(p:Int)+1≤(p:Int)+1+(k:Int)∧(p:Int)+1+(k:Int)≤(s.length:Int) then(QP 3 (pT s ((p:Int)+1) ((p:Int)+1+(k:Int)))).bind _ else _ else _ else _ else _)=_;rw[aTG (by simp),aTD (sC (by omega)),aTD (sC (by omega)),aTD (by unfold pE;omega),aTD ⟨by omega,by omega,by omega⟩,hcm,aOh (by decide) (by decide) hft,aTC];generalize hu:yO 3 ((s.drop (p+1)).take k)=u at hA⊢
          have hul:pS u.1:=by
            have:=a8C 3 ((s.drop (p+1)).take k);rw[hu,aT5,aTR] at this;unfold pS;omega
          obtain⟨ht1,ht2⟩:=NC u.1 hul;rw[aTD (fun _=>by rw[ht1];rfl),ht2];by_cases hb:u.2.2≠0∨sA u.1=false
          · rw[aTD hb] at hA
            rw[aTD (by
              rcases hb with hb|hb
              ·simp [hb]
              ·simp [hb]),hspec 0 [] 0 hA]
            rfl
          · rw[aTG hb] at hA
            have hb1:u.2.2=0:=by
              by_cases h:u.2.2=0
              ·exact h
              ·exact absurd (.inl h) hb
            have hb2:sA u.1=true:=by
              cases h:sA u.1 with
              |true=>rfl
              |false=>exact absurd (.inr h) hb
            rw[aTG (by simp [hb1,hb2])];show (if pE ((p:Int)+(k:Int)) then if pE ((p:Int)+(k:Int)+2) then _ else _ else _)=_;rw[aTD (by unfold pE;omega),aTD (by unfold pE;omega),hspec 1 u.1 (k+2) hA];show some ((1:Int),u.1,(p:Int),(p:Int)+(k:Int)+2)=some (kR 1,u.1,(p:Int),((p+(k+2):Nat):Int));rw[show (p:Int)+(k:Int)+2=((p+(k+2):Nat):Int) by omega];rfl
      · rw[aTG (by simpa using h2)]
        show (if y6 (s[p].toNat:Int)=true then _ else _)=_;by_cases h3:y6 (s[p].toNat:Int)=true
        · have hw:=a8B (s.drop p)
          rw[aTR] at hw;rw[aTD h3,aOv hs hpl];unfold rH;rw[aTC,aTD ⟨by omega,by omega,by omega⟩,hspec 2 ((s.drop p).take (xJ (s.drop p))) (xJ (s.drop p)) (by rw[hd];exact NL h1 h2 h3)];rw[show ((p+xJ (s.drop p):Nat):Int)=(p:Int)+(xJ (s.drop p):Int) by omega,aHp];rfl
        · rw[aTG h3,hspec 0 [] 0 (by rw[hd];exact NM h1 h2 h3)]
          rfl
def RE (c:Int):Bool:=(((decide ((127:Int)<c))||(((((!(((decide ((97:Int)<=(IntKind.wrap .u8 c)))&&(decide ((IntKind.wrap .u8 c)<=(122:Int))))||((decide ((65:Int)<=(IntKind.wrap .u8 c)))&&(decide ((IntKind.wrap .u8 c)<=(90:Int))))))&&((decide (c<(48:Int)))||(decide ((57:Int)<c))))&&(!decide (c=(45:Int))))&&(!decide (c=(95:Int))))&&(!decide (c=(46:Int)))))==true)
theorem aOz (b:UInt8):RE b.toNat= !vN b:=by
 have hb:=b.toNat_lt;unfold RE vN RC y6;rw[show IntKind.wrap .u8 (b.toNat:Int)=(b.toNat:Int) by rw[aUT];omega];generalize (b.toNat:Int)=c at*;rw[aUH];simp;omega
theorem aOA (s:List UInt8):K3 s=some (EC (s.findIdx? fun b=> !vN b)):=by
 have h:=aCA (f:=Q3 s true) (s:=s) (fun c=>RE c) (fun k=>(k:Int)) (fun c h=>by unfold RE;rw[show decide ((127:Int)<c)=true by simp;omega];rfl) (fun i h=>by
  unfold Q3;rw[aTD (by simpa using h),aTD (by simpa using h),aTD (by simpa using h)];rfl) (by
  unfold Q3;rw[aTG (by simp)])
 unfold K3 MO;rw[h,FD,aTC];congr 1;rw[show (fun b:UInt8=>RE b.toNat)=fun b=> !vN b from funext aOz];cases s.findIdx? fun b=> !vN b<;>rfl
theorem aOB {t:List UInt8}(hsm:t.length<=4000000000) (b:UInt8) (p:Nat) (hp:p<=4000000000):GV (b::t) (p:Int)=some ((y7 t).1,(y7 t).2.1,((p+(y7 t).2.2:Nat):Int)):=by
 have hs:=KR hsm;have hct:pT (b::t) 1 ((b::t).length:Int)=t:=by
  rw[show ((1:Int))=((1:Nat):Int) from rfl,FE];rfl
 unfold GV;rw[aTD ⟨by decide,by simp only[aTJ];omega,aUq _⟩,hct,aN4,show ((34:Int))=((34:UInt8).toNat:Int) from rfl,aG2 (by decide) (by decide) _ _ hs,aTC];unfold y7;cases he:sH 34 t with
 |none=>
  rw[aTD (by decide)];rfl
 |some k=>
  have hk:=R4 _ _ _ (aTZ _) he;have hcm:pT (b::t) 1 ((k:Int)+1)=t.take k:=by
   unfold pT;rw[show ((k:Int)+1).toNat- (1:Int).toNat=k by omega];rfl
  have hft:pS (t.take k):=aHo hs _;show (if decide ((k:Int)<0)=true then _ else if pE ((k:Int)+1) then if 0<=(1:Int)/\(1:Int)<=(k:Int)+1/\(k:Int)+1<=((b::t).length:Int) then(FC 3 (pT (b::t) 1 ((k:Int)+1))).bind _ else _ else _)=_;rw[aTG (by simp),aTD (sC (by omega)),aTD ⟨by decide,by omega,by simp only[aTJ];omega⟩,hcm,aOi (by decide) (by decide) hft,aTC];dsimp only;generalize hu:yO 3 (t.take k)=u;have hul:pS u.1:=by
   have:=a8C 3 (t.take k);rw[hu,aT5] at this;unfold pS;omega
  have ht1:=ND u.1 hul;rw[aTD (fun _=>by rw[ht1];rfl)];show (if (!decide (u.2.2=0)|| !sA u.1)=true then _ else _)=_
  by_cases hb:u.2.2≠0\/sA u.1=false
  ·rw[aTD hb,aTD (by
    rcases hb with hb|hb
    ·simp [hb]
    ·simp [hb])]
   rfl
  ·have hb1:u.2.2=0:=by
    by_cases h:u.2.2=0
    ·exact h
    ·exact absurd (.inl h) hb
   have hb2:sA u.1=true:=by
    cases h:sA u.1 with
    |true=>rfl
    |false=>exact absurd (.inr h) hb
   rw[aTG hb,aTG (by simp [hb1,hb2])];show (if pE ((p:Int)+(k:Int)) then if pE ((p:Int)+(k:Int)+2) then _ else _ else _)=_;rw[aTD (by unfold pE;omega),aTD (by unfold pE;omega)];show some ((1:Int),u.1,(p:Int)+(k:Int)+2)=some ((1:Int),u.1,((p+(k+2):Nat):Int));rw[show (p:Int)+(k:Int)+2=((p+(k+2):Nat):Int) by omega]
theorem aHr {s:List UInt8}(hsm:s.length<=4000000000) {i:Nat}(hi:i<=s.length):
  CC (s,((i:Int),()))=some ((tU (s.drop i)).1,(tU (s.drop i)).2.1,((i+(tU (s.drop i)).2.2.1:Nat):Int),((i+(tU (s.drop i)).2.2.2:Nat):Int),((i+(tU (s.drop i)).2.2.2:Nat):Int)):=by
 have hs:=KR hsm;have hgl:=NI (s.drop i).length (s.drop i) (aTZ _);rw[aTR] at hgl;unfold CC;rw[aOq hs hi,aTC];dsimp only;obtain⟨p,hp⟩: ∃p,i+(G (s.drop i)).1=p:=⟨_,rfl⟩;have hdp:(s.drop i).drop (G (s.drop i)).1=s.drop p:=by rw[aUs,hp]
 have hpl:p<=s.length:=by omega
 rw[hp];by_cases hg:(G (s.drop i)).2=true
 ·rw[aTG (by rw[hg];decide)];have hspec: ∀k t n,uZ (s.drop p)=(k,t,n)->((tU (s.drop i)).1,(tU (s.drop i)).2.1,((i+(tU (s.drop i)).2.2.1:Nat):Int),((i+(tU (s.drop i)).2.2.2:Nat):Int),((i+(tU (s.drop i)).2.2.2:Nat):Int))=(k,t,(p:Int),((p+n:Nat):Int),((p+n:Nat):Int)):=by
   intro k t n hk;unfold tU;rw[aTD hg,hdp,hk];dsimp only;rw[<-aUn,hp]
  by_cases hend:p=s.length
  ·have hnil:s.drop p=[]:=by rw[hend,aUk]
   rw[aTD (by rw[hend];simp),hspec 4 [] 0 (by rw[hnil];rfl)];rfl
  ·have hlt:p<s.length:=by omega
   have hd:=aT2 hlt;have hdl:(s.drop p).length=s.length-p:=aTR;have hb:pR (s.drop p) 0=(s[p].toNat:Int):=by
    rw[hd];exact yD (i:=0) (by simp only[aTJ];omega)
   rw[aTG (by simp;omega),FE,aTD ⟨by omega,by omega,aUq _⟩,aTD ⟨aUq _,by omega⟩,hb,uS (n:=123) 123 rfl,uS (n:=125) 125 rfl,uS (n:=34) 34 rfl];by_cases h1:s[p]=123\/s[p]=125
   ·have hz:pT (s.drop p) 0 1=[s[p]]:=by rw[hd];rfl
    rw[aTD (by simpa using h1),aTD ⟨aUq _,by decide,by omega⟩,aTD (sC (by omega)),hz,hspec 3 [s[p]] 1 (by rw[hd];exact NJ h1)];rfl
   ·rw[aTG (by simpa using h1)];by_cases h2:s[p]=34
    ·have hA:uZ (s.drop p)=y7 (s.drop (p+1)):=by rw[hd];exact NK h1 h2
     rw[aTD (by simpa using h2)];have hq:=aOB (t:=s.drop (p+1)) (by rw[aTR];omega) s[p] p (by omega);rw[<-hd] at hq;rw[hq,aTC,hspec (y7 (s.drop (p+1))).1 (y7 (s.drop (p+1))).2.1 (y7 (s.drop (p+1))).2.2 hA]
    ·rw[aTG (by simpa using h2)];show (if y6 (s[p].toNat:Int)=true then _ else _)=_;by_cases h3:y6 (s[p].toNat:Int)=true
     ·have hw:=a8B (s.drop p);rw[hdl] at hw;rw[aTD h3,aOA,aTC,hspec 2 ((s.drop p).take (xJ (s.drop p))) (xJ (s.drop p)) (by rw[hd];exact NL h1 h2 h3)];have hx:(if decide (EC ((s.drop p).findIdx? fun b=> !vN b)<0)=true then some ((s.drop p).length:Int) else some (EC ((s.drop p).findIdx? fun b=> !vN b)))=some (xJ (s.drop p):Int):=by
       unfold xJ;cases(s.drop p).findIdx? fun b=> !vN b with
       |none=>rw[aTD (by decide)];rfl
       |some k=>rw[aTG (by show¬decide ((k:Int)<0)=true;simp)];rfl
      rw[hx];unfold rH;rw[aTC,aTD ⟨aUq _,by omega,by omega⟩,aTD (by unfold pE;omega),W3];rfl
     ·rw[aTG h3,hspec 0 [] 0 (by rw[hd];exact NM h1 h2 h3)];rfl
 ·have hg':(G (s.drop i)).2=false:=by simpa using hg
  rw[aTD (by rw[hg'];rfl)];unfold tU;rw[aTG hg];dsimp only;rw[hp]
def kS (s:List UInt8) (P:Nat):Int:=(tU (s.drop P)).1
def xS (s:List UInt8) (P:Nat):List UInt8:=(tU (s.drop P)).2.1
def fS (s:List UInt8) (P:Nat):Nat:=P+(tU (s.drop P)).2.2.1
def nS (s:List UInt8) (P:Nat):Nat:=P+(tU (s.drop P)).2.2.2
theorem sG {s:List UInt8}{P:Nat}(h:P<=s.length):P<=nS s P/\nS s P<=s.length:=by
 have:=aOu (s.drop P);rw[aTR] at this;unfold nS;omega
theorem uJ {p:Prop}{α:Type}{v:α}:p->(some v).isSome=true:=fun _=>rfl
abbrev C4:=List UInt8×(List (List UInt8)×(List rF×(List rD×Unit)))
abbrev R8:=Int×Int×List UInt8×Int×Int×Int×Int×Int
def tD (s:List UInt8) (P:Nat) (a:Int):R8:=((nS s P:Int),kS s P,xS s P,(fS s P:Int),(nS s P:Int),a,0,(P:Int))
section
variable {s:List UInt8}(hsm:s.length<=4000000000) {P:Nat}(hP:P<=s.length) {c:C4}{a e en at0 f t:Int}{k:Int}{x:List UInt8}{ends:List Int}{ids:List (List UInt8×Bool)}
include hsm hP
theorem RF:sF (s,(((P:Nat):Int),())) (k,(x,(f,(t,())))) a 0 c (ends,(en,())) ids=some ((nS s P:Int),kS s P,xS s P,(fS s P:Int),(nS s P:Int),t):=by
 unfold sF;dsimp only;rw[aTD (by decide),aHr hsm hP];rfl
omit hsm hP in
theorem RG (he:e≠0):sF (s,(at0,())) (k,(x,(f,(t,())))) a e c (ends,(en,())) ids=some (at0,k,x,f,t,en):=by
 unfold sF;dsimp only;rw[aTG (by simpa using he)]
omit hsm hP in
theorem WR {r1:List UInt8×(Int×Unit)}{code:Int}{r6:List Int×(Int×Unit)}:uB r1 (k,(x,(f,(t,())))) a 0 c r6 code ids=(f,code):=by
 unfold uB;rw[aTD (by decide)]
omit hsm hP in
theorem aOC {r1:List UInt8×(Int×Unit)}{code:Int}{r6:List Int×(Int×Unit)}(he:e≠0):uB r1 (k,(x,(f,(t,())))) a e c r6 code ids=(a,e):=by
 unfold uB;rw[aTG (by simpa using he)]
omit hsm hP in
theorem CE {c':C4}{code:Int}(hc:code≠0):(rM (uB (s,(at0,())) (k,(x,(f,(t,())))) a 0 c (ends,(en,())) code ids) fun r=>
  (sF (s,(at0,())) (k,(x,(f,(t,())))) r.1 r.2 c' (ends,(en,())) ids).bind fun r'=>some ((r'.1,r'.2.1,r'.2.2.1,r'.2.2.2.1,r'.2.2.2.2.1,r.1,r.2,r'.2.2.2.2.2):R8))=some (at0,k,x,f,t,f,code,en):=by
 unfold rM;rw[WR];dsimp only;rw[RG hc];rfl
omit hsm hP in
theorem KS {c':C4}{code:Int}(he:e≠0):(rM (uB (s,(at0,())) (k,(x,(f,(t,())))) a e c (ends,(en,())) code ids) fun r=>
  (sF (s,(at0,())) (k,(x,(f,(t,())))) r.1 r.2 c' (ends,(en,())) ids).bind fun r'=>some ((r'.1,r'.2.1,r'.2.2.1,r'.2.2.2.1,r'.2.2.2.2.1,r.1,r.2,r'.2.2.2.2.2):R8))=some (at0,k,x,f,t,a,e,en):=by
 unfold rM;rw[aOC he];dsimp only;rw[RG he];rfl
theorem KT {c':C4}:((sF (s,(((P:Nat):Int),())) (k,(x,(f,(((P:Nat):Int),())))) a 0 c' (ends,(en,())) ids).bind fun r'=>some ((r'.1,r'.2.1,r'.2.2.1,r'.2.2.2.1,r'.2.2.2.2.1,a,0,r'.2.2.2.2.2):R8))=some (tD s P a):=by
 rw[RF hsm hP];rfl
omit hsm hP in
theorem WS {c':C4}(he:e≠0):((sF (s,(at0,())) (k,(x,(f,(t,())))) a e c' (ends,(en,())) ids).bind fun r'=>some ((r'.1,r'.2.1,r'.2.2.1,r'.2.2.2.1,r'.2.2.2.2.1,a,e,r'.2.2.2.2.2):R8))=some (at0,k,x,f,t,a,e,en):=by
 rw[RG he];rfl
def tE (bad dup much:Bool):Int:=if bad=true then 3 else if dup=true then 9 else if much=true then 6 else 0
def tV (s:List UInt8) (P:Nat) (a at0 k:Int) (x:List UInt8) (f t en:Int) (code:Int):R8:=if code=0 then tD s P a else(at0,k,x,f,t,f,code,en)
theorem RH {kind:Int}{text:List UInt8}:xY (s,(((P:Nat):Int),())) (k,(x,(f,(((P:Nat):Int),())))) a 0 c (ends,(en,())) kind text ids=some (tV s P a P k x f P en (if k=kind/\x=text then 0 else 3)):=by
 unfold xY tV;dsimp only;by_cases h:k=kind/\x=text
 ·rw[aTG (by simp [h.1,h.2]),KT hsm hP,aTD h,aTD rfl]
 ·rw[aTD (by simp only[decide_true,Bool.true_and,aT8,aU5,aUh];exact Decidable.not_and_iff_or_not.1 h),CE (by decide),aTG h,aTG (by decide)]
omit hsm hP in
theorem WT {kind:Int}{text:List UInt8}(he:e≠0):xY (s,(at0,())) (k,(x,(f,(t,())))) a e c (ends,(en,())) kind text ids=some (at0,k,x,f,t,a,e,en):=by
 unfold xY;dsimp only;rw[aTD (by simp [he]),KS he]
theorem aOD {kind:Int}:zW (s,(((P:Nat):Int),())) (k,(x,(f,(((P:Nat):Int),())))) a 0 c (ends,(en,())) kind false ids=some (tV s P a P k x f P en (tE (decide (k≠kind)) false false)):=by
 unfold zW tV tE;dsimp only;by_cases h:k=kind
 ·rw[aTG (by simp [h]),aTG (by decide),aTG (by decide),KT hsm hP];simp [h]
 ·rw[aTD (by simp [h]),CE (by decide)];simp [h]
omit hsm hP in
theorem aOE {kind:Int}(he:e≠0):zW (s,(at0,())) (k,(x,(f,(t,())))) a e c (ends,(en,())) kind false ids=some (at0,k,x,f,t,a,e,en):=by
 unfold zW;dsimp only;by_cases h:k=kind
 ·rw[aTG (by simp [h]),aTG (by decide),aTG (by decide),WS he]
 ·rw[aTD (by simp [h]),KS he]
theorem aOF {kind:Int}:zX (s,(((P:Nat):Int),())) (k,(x,(f,(((P:Nat):Int),())))) a 0 c (ends,(en,())) kind false ids=some (tV s P a P k x f P en (tE (decide (k≠kind)|| !tY x) false false)):=by
 unfold zX tV tE;dsimp only;rw[a8k,aTD uJ];by_cases h:k=kind/\tY x=true
 ·rw[aTG (by simp [h.1,h.2,val]),aTG (by decide),aTG (by decide),KT hsm hP];simp [h.1,h.2]
 ·have hb:(!decide (k=kind)|| !val (some (tY x)))=true:=by
   by_cases h1:k=kind
   ·have h2:tY x=false:=by cases h2:tY x with|true=>exact absurd ⟨h1,h2⟩ h|false=>rfl
    simp [h2,val]
   ·simp [h1]
  have hb2:(decide (k≠kind)|| !tY x)=true:=by simpa[val] using hb
  rw[aTD hb,CE (by decide),hb2];simp
omit hsm hP in
theorem aOG {kind:Int}(he:e≠0):zX (s,(at0,())) (k,(x,(f,(t,())))) a e c (ends,(en,())) kind false ids=some (at0,k,x,f,t,a,e,en):=by
 unfold zX;dsimp only;rw[a8k,aTD uJ];by_cases h:(!decide (k=kind)|| !val (some (tY x)))=true
 ·rw[aTD h,KS he]
 ·rw[aTG h,aTG (by decide),aTG (by decide),WS he]
theorem aOH {kind:Int}:zY (s,(((P:Nat):Int),())) (k,(x,(f,(((P:Nat):Int),())))) a 0 c (ends,(en,())) kind false ids=some (tV s P a P k x f P en (tE (decide (k≠kind)|| !decide (0<=tN x)) false false)):=by
 unfold zY tV tE;dsimp only;rw[(VY x).1,aTD uJ];have hb2:(!decide (k=kind)|| !val (some (decide (0<=tN x))))=(decide (k≠kind)|| !decide (0<=tN x)):=by simp [val]
 rw[hb2];by_cases h:(decide (k≠kind)|| !decide (0<=tN x))=true
 ·rw[aTD h,CE (by decide),aTD h,aTG (by decide)]
 ·rw[aTG h,aTG (by decide),aTG (by decide),KT hsm hP,aTG h];simp
omit hsm hP in
theorem aOI {kind:Int}(he:e≠0):zY (s,(at0,())) (k,(x,(f,(t,())))) a e c (ends,(en,())) kind false ids=some (at0,k,x,f,t,a,e,en):=by
 unfold zY;dsimp only;rw[(VY x).1,aTD uJ];by_cases h:(!decide (k=kind)|| !val (some (decide (0<=tN x))))=true
 ·rw[aTD h,KS he]
 ·rw[aTG h,aTG (by decide),aTG (by decide),WS he]
end
theorem zD {b:Bool}{d m:Bool}(h:b=true):tE b d m=3:=by unfold tE;rw[aTD h]
theorem NN {b:Bool}{d m:Bool}(h: ¬b=true) (h2:d=true):tE b d m=9:=by unfold tE;rw[aTG h,aTD h2]
theorem NO {b:Bool}{d m:Bool}(h: ¬b=true) (h2: ¬d=true) (h3:m=true):tE b d m=6:=by unfold tE;rw[aTG h,aTG h2,aTD h3]
theorem D1 {b:Bool}{d m:Bool}(h: ¬b=true) (h2: ¬d=true) (h3: ¬m=true):tE b d m=0:=by unfold tE;rw[aTG h,aTG h2,aTG h3]
section
variable {s:List UInt8}(hsm:s.length<=4000000000) {P:Nat}(hP:P<=s.length) {c:C4}{a e en at0 f t:Int}{k:Int}{x:List UInt8}{ends:List Int}{ids:List (List UInt8×Bool)}
 {b9 b10 b11:List UInt8}{b12 b18:List (List UInt8)}{b13:Int×(List rF×Unit)}{b14:Bool}{b21:List (List UInt8×Bool)}
include hsm hP
theorem aOJ {kind:Int}{much:Bool}(hfl:pS b13.2.1):BK (s,(((P:Nat):Int),())) (k,(x,(f,(((P:Nat):Int),())))) a 0 c (ends,(en,())) kind much ids b9 b10 b11 b12 b13 b14 b18 b21=
  some (tV s P a P k x f P en (tE (decide (k≠kind)|| !rY x) (b13.2.1.any fun y=>decide (y.1=x)) much)):=by
 unfold BK MW tV;dsimp only;rw[VX,aTD uJ];have hb2:(!decide (k=kind)|| !val (some (rY x)))=(decide (k≠kind)|| !rY x):=by simp [val]
 rw[hb2];by_cases h:(decide (k≠kind)|| !rY x)=true
 ·rw[aTD h,CE (by decide),zD h,aTG (by decide)]
 ·rw[aTG h,aNH _ _ hfl,aTC,aTC,aGG];by_cases h2:(b13.2.1.any fun y=>decide (y.1=x))=true
  ·rw[aTD h2,CE (by decide),NN h h2,aTG (by decide)]
  ·rw[aTG h2];by_cases h3:much=true
   ·rw[aTD h3,CE (by decide),NO h h2 h3,aTG (by decide)]
   ·rw[aTG h3,KT hsm hP,D1 h h2 h3,aTD rfl]
theorem aOK {kind:Int}{much:Bool}(hfl:pS b18):BL (s,(((P:Nat):Int),())) (k,(x,(f,(((P:Nat):Int),())))) a 0 c (ends,(en,())) kind much ids b9 b10 b11 b12 b13 b14 b18 b21=
  some (tV s P a P k x f P en (tE (decide (k≠kind)|| !rY x) (b18.any fun y=>decide (y=x)) much)):=by
 unfold BL MV tV;dsimp only;rw[VX,aTD uJ];have hb2:(!decide (k=kind)|| !val (some (rY x)))=(decide (k≠kind)|| !rY x):=by simp [val]
 rw[hb2];by_cases h:(decide (k≠kind)|| !rY x)=true
 ·rw[aTD h,CE (by decide),zD h,aTG (by decide)]
 ·rw[aTG h,aNF _ _ hfl,aTC,aTC];by_cases h2:(b18.any fun y=>decide (y=x))=true
  ·rw[aTD h2,CE (by decide),NN h h2,aTG (by decide)]
  ·rw[aTG h2];by_cases h3:much=true
   ·rw[aTD h3,CE (by decide),NO h h2 h3,aTG (by decide)]
   ·rw[aTG h3,KT hsm hP,D1 h h2 h3,aTD rfl]
def ED (x:List UInt8):Bool:= !decide (x=[])&&decide ((x.length:Int)<=200)
theorem aOL {kind:Int}{much:Bool}:A9 (s,(((P:Nat):Int),())) (k,(x,(f,(((P:Nat):Int),())))) a 0 c (ends,(en,())) kind much ids=
  some (tV s P a P k x f P en (tE (decide (k≠kind)|| !ED x) (rV .str .bool ids x) much)):=by
 unfold A9 tV;dsimp only;have hb2:(!decide (k=kind)|| !(!decide (x=[])&&decide ((x.length:Int)<=200)))=(decide (k≠kind)|| !ED x):=by simp [ED]
 rw[hb2];by_cases h:(decide (k≠kind)|| !ED x)=true
 ·rw[aTD h,CE (by decide),zD h,aTG (by decide)]
 ·rw[aTG h];by_cases h2:rV .str .bool ids x=true
  ·rw[aTD h2,CE (by decide),NN h h2,aTG (by decide)]
  ·rw[aTG h2];by_cases h3:much=true
   ·rw[aTD h3,CE (by decide),NO h h2 h3,aTG (by decide)]
   ·rw[aTG h3,KT hsm hP,D1 h h2 h3,aTD rfl]
omit hsm hP in
theorem aOM {kind:Int}{much:Bool}(he:e≠0):A9 (s,(at0,())) (k,(x,(f,(t,())))) a e c (ends,(en,())) kind much ids=some (at0,k,x,f,t,a,e,en):=by
 unfold A9;dsimp only;by_cases h:(!decide (k=kind)|| !(!decide (x=[])&&decide ((x.length:Int)<=200)))=true
 ·rw[aTD h,KS he]
 ·rw[aTG h];by_cases h2:rV .str .bool ids x=true
  ·rw[aTD h2,KS he]
  ·rw[aTG h2];by_cases h3:much=true
   ·rw[aTD h3,KS he]
   ·rw[aTG h3,WS he]
theorem a8D:zV (s,(((P:Nat):Int),())) (k,(x,(f,(((P:Nat):Int),())))) a 0 c (ends,(en,())) b9 b10 b11 b12 b13 b14 ids b18 b21=
  some (tV s P a P k x f P en (if rV .str .bool b21 x=true then 9 else 0)):=by
 unfold zV tV;dsimp only;by_cases h:rV .str .bool b21 x=true
 ·rw[aTD h,aTD h,aTG (by decide)];unfold rM rH;rw[WR,aTC];dsimp only;rw[RG (by decide)];rfl
 ·rw[aTG h,aTG h,aTD rfl];unfold rH;rw[aTC];dsimp only;rw[RF hsm hP];rfl
theorem WU:xZ (s,(((P:Nat):Int),())) (k,(x,(f,(((P:Nat):Int),())))) a 0 c (ends,(en,())) ids=some (tV s P a P k x f P en (tE (decide (k≠1)) false false)):=by
 unfold xZ;rw[aOD hsm hP];rfl
omit hsm hP in
theorem WV (he:e≠0):xZ (s,(at0,())) (k,(x,(f,(t,())))) a e c (ends,(en,())) ids=some (at0,k,x,f,t,a,e,en):=by
 unfold xZ;rw[aOE he];rfl
end
def ext {V:Type}(r:R8) (v:V):Int×Int×List UInt8×Int×Int×Int×Int×Int×V:=(r.1,r.2.1,r.2.2.1,r.2.2.2.1,r.2.2.2.2.1,r.2.2.2.2.2.1,r.2.2.2.2.2.2.1,r.2.2.2.2.2.2.2,v)
section
variable {s:List UInt8}(hsm:s.length<=4000000000) {P:Nat}(hP:P<=s.length) {c:C4}{a e en at0 f t:Int}{k:Int}{x:List UInt8}{ends:List Int}{ids:List (List UInt8×Bool)}
 {b9 b10 b11:List UInt8}{b12 b18:List (List UInt8)}{b13:Int×(List rF×Unit)}{b14:Bool}{b21:List (List UInt8×Bool)}
include hsm hP
theorem aON (hl:b12.length<=1000) (h20:b12.length≠20):yI (s,(((P:Nat):Int),())) (k,(x,(f,(((P:Nat):Int),())))) a 0 c (ends,(en,())) b9 b10 b11 b12 b13 b14 ids b18 b21=
  some (ext (tV s (nS s P) a (nS s P) (kS s P) (xS s P) (fS s P) (nS s P) P (tE (decide (kS s P≠1)) false false)) (b12++[xS s P])):=by
 unfold yI;dsimp only;rw[aTG (by simp;omega)];unfold rH;rw[aTC];dsimp only;rw[RF hsm hP,aTC];dsimp only;rw[WU hsm (sG hP).2,aTC,aTD (by simp;omega)];rfl
omit hsm hP in
theorem aOO (h20:b12.length=20): ∃y,yI (s,(at0,())) (k,(x,(f,(t,())))) a 0 c (ends,(en,())) b9 b10 b11 b12 b13 b14 ids b18 b21=some (ext (at0,k,x,f,t,f,6,en) (b12++[y])):=by
 refine⟨x,?_⟩;unfold yI;dsimp only;rw[aTD (by simp;omega)];unfold rH rM;rw[WR,aTC];dsimp only;rw[RG (by decide),aTC];dsimp only;rw[WV (by decide),aTC,aTD (by simp;omega)];rfl
theorem aOP (hl:b13.2.1.length<=1000): ∃v,AA (s,(((P:Nat):Int),())) (k,(x,(f,(((P:Nat):Int),())))) a 0 c (ends,(en,())) b9 b10 b11 b12 b13 b14 ids b18 b21=
  some (ext (if tE (decide (kS s P≠1)|| !rY (xS s P)) (b13.2.1.any fun y=>decide (y.1=xS s P)) (decide (b13.2.1.length=20))=0 then tV s (nS s (nS s P)) a (nS s (nS s P)) (kS s (nS s P)) (xS s (nS s P)) (fS s (nS s P)) (nS s (nS s P)) (nS s P) (tE (decide (kS s (nS s P)≠1)) false false)
   else((nS s P:Int),kS s P,xS s P,(fS s P:Int),(nS s P:Int),(fS s P:Int),tE (decide (kS s P≠1)|| !rY (xS s P)) (b13.2.1.any fun y=>decide (y.1=xS s P)) (decide (b13.2.1.length=20)),(P:Int))) (AU b13.2.1 (xS s P) v))/\
  (tE (decide (kS s P≠1)|| !rY (xS s P)) (b13.2.1.any fun y=>decide (y.1=xS s P)) (decide (b13.2.1.length=20))=0->v=xS s (nS s P)):=by
 have hfit:pS b13.2.1:=by unfold pS;omega
 have hQ:=(sG hP).2;have hR:=(sG hQ).2;have hd:decide ((b13.2.1.length:Int)=(20:Int))=decide (b13.2.1.length=20):=by
  rw[aUH];simp;omega
 unfold AA;rw[RF hsm hP,aTC];dsimp only;rw[hd,aOJ hsm hQ hfit,aTC];generalize tE (decide (kS s P≠1)|| !rY (xS s P)) (b13.2.1.any fun y=>decide (y.1=xS s P)) (decide (b13.2.1.length=20))=code
 unfold tV;by_cases hc:code=0
 ·refine⟨xS s (nS s P),?_,fun _=>rfl⟩;rw[aTD hc,aTD hc];unfold tD;dsimp only;rw[WU hsm hR,aTC,aGK _ _ _ hfit];rfl
 ·refine⟨xS s P,?_,fun h=>absurd h hc⟩;rw[aTG hc,aTG hc];dsimp only;rw[WV hc,aTC,aGK _ _ _ hfit];rfl
theorem aOQ: ∃v,AR (s,(((P:Nat):Int),())) (k,(x,(f,(((P:Nat):Int),())))) a 0 c (ends,(en,())) b9 b10 b11 b12 b13 b14 ids b18 b21=
  some (ext (if rV .str .bool b21 x=true then((P:Int),k,x,f,(P:Int),f,9,en) else tV s (nS s P) a (nS s P) (kS s P) (xS s P) (fS s P) (nS s P) P (tE (decide (kS s P≠1)) false false)) v)/\(¬rV .str .bool b21 x=true->v=xS s P):=by
 have hQ:=(sG hP).2;unfold AR;rw[a8D hsm hP,aTC];unfold tV;by_cases h:rV .str .bool b21 x=true
 ·refine⟨x,?_,fun h'=>absurd h h'⟩;rw[aTD h,aTG (by decide),aTD h];dsimp only;rw[WV (by decide),aTC];rfl
 ·refine⟨xS s P,?_,fun _=>rfl⟩;rw[aTG h,aTD rfl,aTG h];unfold tD;dsimp only;rw[WU hsm hQ,aTC];rfl
theorem aOR: ∃v,AS (s,(((P:Nat):Int),())) (k,(x,(f,(((P:Nat):Int),())))) a 0 c (ends,(en,())) b9 b10 b11 b12 b13 b14 ids b18 b21=
  some (ext (if rV .str .bool b21 x=true then((P:Int),k,x,f,(P:Int),f,9,en) else tV s (nS s P) a (nS s P) (kS s P) (xS s P) (fS s P) (nS s P) P (tE (decide (kS s P≠1)) false false)) v)/\(¬rV .str .bool b21 x=true->v=xS s P):=by
 have hQ:=(sG hP).2;unfold AS;rw[a8D hsm hP,aTC];unfold tV;by_cases h:rV .str .bool b21 x=true
 ·refine⟨x,?_,fun h'=>absurd h h'⟩;rw[aTD h,aTG (by decide),aTD h];dsimp only;rw[WV (by decide),aTC];rfl
 ·refine⟨xS s P,?_,fun _=>rfl⟩;rw[aTG h,aTD rfl,aTG h];unfold tD;dsimp only;rw[WU hsm hQ,aTC];rfl
theorem aOS: ∃v,AQ (s,(((P:Nat):Int),())) (k,(x,(f,(((P:Nat):Int),())))) a 0 c (ends,(en,())) b9 b10 b11 b12 b13 b14 ids b18 b21=
  some (ext (if rV .str .bool b21 x=true then((P:Int),k,x,f,(P:Int),f,9,en) else tV s (nS s P) a (nS s P) (kS s P) (xS s P) (fS s P) (nS s P) P (tE (decide (kS s P≠2)|| !decide (0<=tN (xS s P))) false false)) v)/\(¬rV .str .bool b21 x=true->v=max 0 (tN (xS s P))):=by
 have hQ:=(sG hP).2;unfold AQ;rw[a8D hsm hP,aTC];unfold tV;by_cases h:rV .str .bool b21 x=true
 ·refine⟨max 0 (tN x),?_,fun h'=>absurd h h'⟩;rw[aTD h,aTG (by decide),aTD h];dsimp only;rw[aOI (by decide),aTC];show (C6 wI x).bind _=_;rw[(VY x).2];rfl
 ·refine⟨max 0 (tN (xS s P)),?_,fun _=>rfl⟩;rw[aTG h,aTD rfl,aTG h];unfold tD;dsimp only;rw[aOH hsm hQ,aTC];show (C6 wI (xS s P)).bind _=_;rw[(VY (xS s P)).2];rfl
theorem TJ (hl:b18.length<=1000):zB (s,(((P:Nat):Int),())) (k,(x,(f,(((P:Nat):Int),())))) a 0 c (ends,(en,())) b9 b10 b11 b12 b13 b14 ids b18 b21=
  some (ext (tV s (nS s P) a (nS s P) (kS s P) (xS s P) (fS s P) (nS s P) P (tE (decide (kS s P≠2)|| !rY (xS s P)) (b18.any fun y=>decide (y=xS s P)) (decide (b18.length=20)))) (b18++[xS s P])):=by
 have hfit:pS b18:=by unfold pS;omega
 have hQ:=(sG hP).2;have hd:decide ((((b18.length):Nat):Int)=(20:Int))=decide (b18.length=20):=by
  rw[aUH];simp;omega
 unfold zB;rw[RF hsm hP,aTC];dsimp only;rw[hd,aOK hsm hQ hfit,aTC,aTD (by simp;omega)];rfl
end
theorem AW {k j:Int}(h0:j≠0) (h4:j≠4):kR k=j↔k=j:=by
 unfold kR;split
 ·rename_i h;subst h;constructor
  ·intro h;exact absurd h.symm h0
  ·intro h;exact absurd h.symm h4
 ·rfl
abbrev E7:=Int×Int×Int×Int×List UInt8×Int×Int
def RI (s:List UInt8) (P:Nat) (bad:Int) (ok:Bool):E7:=
 if ok=true then((nS s P:Int),bad,0,kR (kS s P),xS s P,(fS s P:Int),(nS s P:Int)) else((P:Int),(fS s P:Int),3,kR (kS s P),xS s P,(fS s P:Int),(nS s P:Int))
theorem wK {s:List UInt8}{P:Nat}{bad:Int}{ok:Bool}(h:ok=true):RI s P bad ok=((nS s P:Int),bad,0,kR (kS s P),xS s P,(fS s P:Int),(nS s P:Int)):=aTD h
theorem zE {s:List UInt8}{P:Nat}{bad:Int}{ok:Bool}(h: ¬ok=true):RI s P bad ok=((P:Int),(fS s P:Int),3,kR (kS s P),xS s P,(fS s P:Int),(nS s P:Int)):=aTG h
section
variable {s:List UInt8}(hsm:s.length<=4000000000) {P:Nat}(hP:P<=s.length) {c:C4}{bad e:Int}{ends:List Int}{kind:Int}{text:List UInt8}
include hsm hP
theorem RJ:N2 s (P:Int)=some (kR (kS s P),xS s P,(fS s P:Int),(nS s P:Int)):=aOy hsm hP
omit hsm hP in
theorem wY {k:Int}{x:List UInt8}{f t:Int}{a:Int}{code:Int}:xX (s,(a,(bad,(0,(c,(ends,())))))) (k,(x,(f,(t,())))) code=(f,code):=by
 unfold xX;exact aTD (show decide ((0:Int)=0)=true from rfl)
theorem FG:w7 (s,((P:Int),(bad,(0,(c,(ends,())))))) kind text=some (RI s P bad (decide (kR (kS s P)=kind)&&(decide (text=[])||decide (xS s P=text)))):=by
 unfold w7 RI;dsimp only;rw[RJ hsm hP,aTC];dsimp only;rw[aTG (show¬(!decide ((0:Int)=0))=true from by decide)];by_cases h:(decide (kR (kS s P)=kind)&&(decide (text=[])||decide (xS s P=text)))=true
 ·rw[aTD h,aTG];simp only[aTL,aUt,aTK] at h;simp only[aUt,aTL,aT8,aUh,not_or,not_and,Decidable.not_not];refine⟨h.1,fun ht=> ?_⟩;rcases h.2 with h2|h2
  ·exact absurd h2 ht
  ·exact h2
 ·rw[aTG h,aTD]
  ·unfold rM;rw[wY]
  ·simp only[aTL,aUt,aTK,not_and,not_or] at h;simp only[aUt,aTL,aT8,aUh];by_cases hk:kR (kS s P)=kind
   ·exact .inr (h hk)
   ·exact .inl hk
theorem RK (he:e≠0):w7 (s,((P:Int),(bad,(e,(c,(ends,())))))) kind text=some ((P:Int),bad,e,kR (kS s P),xS s P,(fS s P:Int),(nS s P:Int)):=by
 unfold w7;dsimp only;rw[RJ hsm hP,aTC];dsimp only;rw[aTD (by simpa using he)]
theorem CF {j:Int}(h0:j≠0) (h4:j≠4):w7 (s,((P:Int),(bad,(0,(c,(ends,())))))) j []=some (RI s P bad (decide (kS s P=j))):=by
 rw[FG hsm hP];congr 2;rw[aUH];simp [AW h0 h4]
def FH (s:List UInt8) (P:Nat) (bad:Int) (fl:List rF):Int×Int×Int×List rF:=
 if kS s P≠1 then((P:Int),(fS s P:Int),3,fl)
 else if rY (xS s P)=false then((nS s P:Int),(fS s P:Int),3,fl)
 else if (fl.any fun y=>decide (y.1=xS s P))=true then((nS s P:Int),(fS s P:Int),9,fl)
 else if 20<=fl.length then((nS s P:Int),(fS s P:Int),6,fl)
 else if kS s (nS s P)≠1 then((nS s P:Int),(fS s (nS s P):Int),3,AU fl (xS s P) (xS s (nS s P)))
 else((nS s (nS s P):Int),bad,0,AU fl (xS s P) (xS s (nS s P)))
theorem NP:pS (xS s P):=by
 have h1:=hsm;have:(xS s P).length<=4000000000:=by
  unfold xS tU;split
  ·dsimp only;generalize hr:(s.drop P).drop (G (s.drop P)).1=r;have hrl:r.length<=s.length:=by rw[<-hr,aTR,aTR];omega
   unfold uZ;split
   ·simp
   ·rename_i b t;simp only[aTJ] at hrl;split
    ·simp
    ·split
     ·unfold y7;cases he:sH 34 t with
      |none=>simp
      |some n=>
       dsimp only;split
       ·simp
       ·have:=a8C 3 (t.take n);rw[aT5] at this;show (yO 3 (t.take n)).1.length<=_;omega
     ·split
      ·show ((b::t).take _).length<=_;rw[aT5];simp only[aTJ];omega
      ·simp
  ·simp
 unfold pS;omega
theorem aOT {i:rD}(hl:i.2.2.2.2.2.2.1.length<=1000):VK (s,((P:Int),(bad,(0,(c,(ends,())))))) i=some (FH s P bad i.2.2.2.2.2.2.1):=by
 have hfit:pS i.2.2.2.2.2.2.1:=by unfold pS;omega
 have hQ:=(sG hP).2;unfold VK FH;rw[CF hsm hP (by decide) (by decide),aTC];by_cases h1:kS s P=1
 ·rw[wK (by simpa using h1),aTG (show¬kS s P≠1 from by simpa using h1)];dsimp only;rw[aTG (show¬(!decide ((0:Int)=0))=true from by decide),aNG _ _ hfit,aTC,VW _ (NP hsm hP),aTC];by_cases h2:rY (xS s P)=true
  ·rw[aTG (show¬(!rY (xS s P))=true from by simp [h2]),aTG (show¬rY (xS s P)=false from by simp [h2]),aGG];by_cases h3:(i.2.2.2.2.2.2.1.any fun y=>decide (y.1=xS s P))=true
   ·rw[aTD h3,aTD h3];unfold rM;rw[wY]
   ·rw[aTG h3,aTG h3];by_cases h4:20<=i.2.2.2.2.2.2.1.length
    ·rw[aTD (show decide ((20:Int)<=(i.2.2.2.2.2.2.1.length:Int))=true from by simp;omega),aTD h4];unfold rM;rw[wY]
    ·rw[aTG (show¬decide ((20:Int)<=(i.2.2.2.2.2.2.1.length:Int))=true from by simp;omega),aTG h4,CF hsm hQ (by decide) (by decide),aTC];by_cases h5:kS s (nS s P)=1
     ·rw[wK (by simpa using h5),aTG (show¬kS s (nS s P)≠1 from by simpa using h5)];dsimp only;rw[aGM _ _ _ hfit,aTC]
     ·rw[zE (by simpa using h5),aTD h5];dsimp only;rw[aGM _ _ _ hfit,aTC]
  ·have h2':rY (xS s P)=false:=by simpa using h2
   rw[aTD (by simp [h2']),aTD h2'];unfold rM;rw[wY]
 ·rw[zE (by simpa using h1),aTD h1];dsimp only;rw[aTD (show (!decide ((3:Int)=0))=true from by decide)]
def xK (l:List (List UInt8)) (x:List UInt8):Nat:=(l.findIdx? fun y=> !Op.bytesLess y x).getD l.length
def EE (l:List (List UInt8)) (x:List UInt8):List (List UInt8):=l.take (xK l x)++[x]++l.drop (xK l x)
omit hsm hP in
theorem aOU (l:List (List UInt8)) (x:List UInt8):xK l x<=l.length:=by
 unfold xK;cases h:l.findIdx? fun y=> !Op.bytesLess y x with
 |none=>exact aTZ _
 |some k=>exact Nat.le_of_lt (aUf.1 h).1
def FI (s:List UInt8) (P:Nat) (bad:Int) (fl:List (List UInt8)):Int×Int×Int×List (List UInt8):=
 if kS s P≠2 then((P:Int),(fS s P:Int),3,fl)
 else if rY (xS s P)=false then((nS s P:Int),(fS s P:Int),3,fl)
 else if (fl.any fun y=>decide (y=xS s P))=true then((nS s P:Int),(fS s P:Int),9,fl)
 else if 20<=fl.length then((nS s P:Int),(fS s P:Int),6,fl)
 else((nS s P:Int),bad,0,EE fl (xS s P))
theorem aOV {i:rD}(hl:i.2.2.2.2.1.length<=1000):VM (s,((P:Int),(bad,(0,(c,(ends,())))))) i=some (FI s P bad i.2.2.2.2.1):=by
 have hfit:pS i.2.2.2.2.1:=by unfold pS;omega
 unfold VM FI;rw[CF hsm hP (by decide) (by decide),aTC];by_cases h1:kS s P=2
 ·rw[wK (by simpa using h1),aTG (show¬kS s P≠2 from by simpa using h1)];dsimp only;rw[aTG (show¬(!decide ((0:Int)=0))=true from by decide),VW _ (NP hsm hP),aTC];by_cases h2:rY (xS s P)=true
  ·rw[aTG (show¬(!rY (xS s P))=true from by simp [h2]),aTG (show¬rY (xS s P)=false from by simp [h2]),aNE _ _ hfit,aTC];by_cases h3:(i.2.2.2.2.1.any fun y=>decide (y=xS s P))=true
   ·rw[aTD h3,aTD h3];unfold rM;rw[wY]
   ·rw[aTG h3,aTG h3];by_cases h4:20<=i.2.2.2.2.1.length
    ·rw[aTD (show decide ((20:Int)<=(i.2.2.2.2.1.length:Int))=true from by simp;omega),aTD h4];unfold rM;rw[wY]
    ·rw[aTG (show¬decide ((20:Int)<=(i.2.2.2.2.1.length:Int))=true from by simp;omega),aTG h4];have hk:=aOU i.2.2.2.2.1 (xS s P);have h2:=aGL (f:=VL i ((nS s P:Int),bad,0,kR (kS s P),xS s P,(fS s P:Int),(nS s P:Int))) (l:=i.2.2.2.2.1) (fun y=>Op.bytesLess y (xS s P)) (fun j h=>by
      unfold VL;rw[aTD (fun _=>rR h),xW (t:= .str) h,sX h,Bool.true_and,aTD (sC (by omega))]) (by
      unfold VL;have hF:decide ((i.2.2.2.2.1.length:Int)<(i.2.2.2.2.1.length:Int))=false:=by simp
      rw[hF,aTD (fun h=>by simp at h),aVx,aTG (by decide)])
     have hins:(i.2.2.2.2.1.findIdx? fun y=> !Op.bytesLess y (xS s P)).getD i.2.2.2.2.1.length=xK i.2.2.2.2.1 (xS s P):=rfl;rw[hins] at h2;rw[h2];unfold rH;rw[aTC,aTD ⟨aUq _,by omega,by omega⟩,W3,FE,aTD (by simp;omega),aTD (by simp;omega),aTD ⟨by omega,by omega,aUq _⟩,aTD (by simp;omega)];simp [EE]
  ·have h2':rY (xS s P)=false:=by simpa using h2
   rw[aTD (by simp [h2']),aTD h2'];unfold rM;rw[wY]
 ·rw[zE (by simpa using h1),aTD h1];dsimp only;rw[aTD (show (!decide ((3:Int)=0))=true from by decide)]
end
abbrev xL:List UInt8:=[99,111,109,109,101,110,116]
abbrev zF:List UInt8:=[102,105,101,108,100]
abbrev D2:List UInt8:=[102,108,97,103]
abbrev tG:List UInt8:=[115,111,117,114,99,101]
abbrev tH:List UInt8:=[116,97,114,103,101,116]
abbrev tW:List UInt8:=[115,116,97,116,101]
theorem KU {x w:List UInt8}(h:x=w):decide (x=w)=true:=aUM h
theorem y8 {x w:List UInt8}(h:x≠w): ¬decide (x=w)=true:=by simp [h]
section
variable {s:List UInt8}(hsm:s.length<=4000000000) {P:Nat}(hP:P<=s.length) {c:C4}{bad f t:Int}{ends:List Int}{k:Int}{x:List UInt8}
 {i1 sr tg:List UInt8}{cm fg:List (List UInt8)}{st:Int}{fd:List rF}{d1 d2 d3 hd:Bool}
include hsm hP
theorem aHs (hx:x=xL) (h20:20<=cm.length):AP (s,((P:Int),(bad,(0,(c,(ends,())))))) (i1,(sr,(tg,(cm,(fg,(st,(fd,()))))))) (d1,(d2,(d3,()))) (k,(x,(f,(t,())))) hd=
  some ((P:Int),f,6,sr,tg,cm,fg,st,fd,d1,d2,d3):=by
 unfold AP;dsimp only;rw[aTD (KU hx),aTD (show decide ((20:Int)<=(cm.length:Int))=true from by simp;omega)];unfold rM;rw[wY]
theorem a8E (hx:x=xL) (h20: ¬20<=cm.length):AP (s,((P:Int),(bad,(0,(c,(ends,())))))) (i1,(sr,(tg,(cm,(fg,(st,(fd,()))))))) (d1,(d2,(d3,()))) (k,(x,(f,(t,())))) hd=
  some (if kS s P=1 then((nS s P:Int),bad,0,sr,tg,cm++[xS s P],fg,st,fd,d1,d2,d3) else((P:Int),(fS s P:Int),3,sr,tg,cm++[xS s P],fg,st,fd,d1,d2,d3)):=by
 unfold AP;dsimp only;rw[aTD (KU hx),aTG (show¬decide ((20:Int)<=(cm.length:Int))=true from by simp;omega)];rw[CF hsm hP (by decide) (by decide),aTC,aTD (by simp;omega),aTD (by simp;omega)];by_cases h1:kS s P=1
 ·rw[wK (by simpa using h1),aTD h1];rfl
 ·rw[zE (by simpa using h1),aTG h1];rfl
theorem a8F (hx:x=zF) (hl:fd.length<=1000):AP (s,((P:Int),(bad,(0,(c,(ends,())))))) (i1,(sr,(tg,(cm,(fg,(st,(fd,()))))))) (d1,(d2,(d3,()))) (k,(x,(f,(t,())))) hd=
  some ((FH s P bad fd).1,(FH s P bad fd).2.1,(FH s P bad fd).2.2.1,sr,tg,cm,fg,st,(FH s P bad fd).2.2.2,d1,d2,d3):=by
 unfold AP;dsimp only;rw[aTG (y8 (by rw[hx];decide)),aTD (KU hx),aOT hsm hP (i:=(i1,(sr,(tg,(cm,(fg,(st,(fd,())))))))) hl,aTC]
theorem aHt (h1:x≠xL) (h2:x≠zF):AP (s,((P:Int),(bad,(0,(c,(ends,())))))) (i1,(sr,(tg,(cm,(fg,(st,(fd,()))))))) (d1,(d2,(d3,()))) (k,(x,(f,(t,())))) true=
  some ((P:Int),f,3,sr,tg,cm,fg,st,fd,d1,d2,d3):=by
 unfold AP;dsimp only;rw[aTG (y8 h1),aTG (y8 h2),aTD rfl];unfold rM;rw[wY]
theorem a8G (hx:x=D2) (hl:fg.length<=1000):AP (s,((P:Int),(bad,(0,(c,(ends,())))))) (i1,(sr,(tg,(cm,(fg,(st,(fd,()))))))) (d1,(d2,(d3,()))) (k,(x,(f,(t,())))) false=
  some ((FI s P bad fg).1,(FI s P bad fg).2.1,(FI s P bad fg).2.2.1,sr,tg,cm,(FI s P bad fg).2.2.2,st,fd,d1,d2,d3):=by
 unfold AP;dsimp only;rw[aTG (y8 (by rw[hx];decide)),aTG (y8 (by rw[hx];decide)),aTG aVL,aTD (KU hx),aOV hsm hP (i:=(i1,(sr,(tg,(cm,(fg,(st,(fd,())))))))) hl,aTC]
theorem aOW:(if (decide (x=tG)&&d1)=true then some (decide (x=tG)&&d1) else if (decide (x=tH)&&d2)=true then some (decide (x=tH)&&d2) else some (decide (x=tW)&&d3))=some ((decide (x=tG)&&d1)||(decide (x=tH)&&d2)||(decide (x=tW)&&d3)):=by
 cases(decide (x=tG)&&d1)<;>cases(decide (x=tH)&&d2)<;>rfl
theorem IN (h1:x≠xL) (h2:x≠zF) (h3:x≠D2):AP (s,((P:Int),(bad,(0,(c,(ends,())))))) (i1,(sr,(tg,(cm,(fg,(st,(fd,()))))))) (d1,(d2,(d3,()))) (k,(x,(f,(t,())))) false=
  some (if ((decide (x=tG)&&d1)||(decide (x=tH)&&d2)||(decide (x=tW)&&d3))=true then((P:Int),f,9,sr,tg,cm,fg,st,fd,d1,d2,d3)
   else if x=tG then(if kS s P=1 then((nS s P:Int),bad,0,xS s P,tg,cm,fg,st,fd,true,d2,d3) else((P:Int),(fS s P:Int),3,xS s P,tg,cm,fg,st,fd,true,d2,d3))
   else if x=tH then(if kS s P=1 then((nS s P:Int),bad,0,sr,xS s P,cm,fg,st,fd,d1,true,d3) else((P:Int),(fS s P:Int),3,sr,xS s P,cm,fg,st,fd,d1,true,d3))
   else if x=tW then(if kS s P=2 then(if tN (xS s P)<0 then((nS s P:Int),(fS s P:Int),3,sr,tg,cm,fg,tN (xS s P),fd,d1,d2,true) else((nS s P:Int),bad,0,sr,tg,cm,fg,tN (xS s P),fd,d1,d2,true)) else((P:Int),(fS s P:Int),3,sr,tg,cm,fg,tN (xS s P),fd,d1,d2,true))
   else((P:Int),f,3,sr,tg,cm,fg,st,fd,d1,d2,d3)):=by
 unfold AP;dsimp only;rw[aTG (y8 h1),aTG (y8 h2),aTG aVL,aTG (y8 h3)];unfold rH;rw[show (if (decide (x=([115,111,117,114,99,101]:List UInt8))&&d1)=true then some (decide (x=([115,111,117,114,99,101]:List UInt8))&&d1) else if (decide (x=([116,97,114,103,101,116]:List UInt8))&&d2)=true then some (decide (x=([116,97,114,103,101,116]:List UInt8))&&d2) else some (decide (x=([115,116,97,116,101]:List UInt8))&&d3))=some ((decide (x=tG)&&d1)||(decide (x=tH)&&d2)||(decide (x=tW)&&d3)) from aOW hsm hP,aTC]
 by_cases hd:((decide (x=tG)&&d1)||(decide (x=tH)&&d2)||(decide (x=tW)&&d3))=true
 ·rw[aTD hd,aTD hd];unfold rM;rw[wY]
 ·rw[aTG hd,aTG hd];by_cases hs:x=tG
  ·rw[aTD (KU hs),aTD hs,CF hsm hP (by decide) (by decide),aTC];by_cases h1:kS s P=1
   ·rw[wK (by simpa using h1),aTD h1]
   ·rw[zE (by simpa using h1),aTG h1]
  ·rw[aTG (y8 hs),aTG hs];by_cases ht:x=tH
   ·rw[aTD (KU ht),aTD ht,CF hsm hP (by decide) (by decide),aTC];by_cases h1:kS s P=1
    ·rw[wK (by simpa using h1),aTD h1]
    ·rw[zE (by simpa using h1),aTG h1]
   ·rw[aTG (y8 ht),aTG ht];by_cases ha:x=tW
    ·rw[aTD (KU ha),aTD ha,CF hsm hP (by decide) (by decide),aTC];by_cases h1:kS s P=2
     ·rw[wK (by simpa using h1),aTD h1];dsimp only;rw[aGF,aTD uJ];by_cases h6:tN (xS s P)<0
      ·rw[aTD (show (decide ((0:Int)=0)&&decide (val (some (tN (xS s P)))<0))=true from aUM (p:=tN (xS s P)<0) h6),aTD h6];unfold rM;rw[wY];rfl
      ·rw[aTG (show¬(decide ((0:Int)=0)&&decide (val (some (tN (xS s P)))<0))=true from fun h=>h6 (aUm (p:=tN (xS s P)<0) h)),aTG h6];rfl
     ·rw[zE (by simpa using h1),aTG h1];dsimp only;rw[aGF,aTD uJ,aTG (show¬(decide ((3:Int)=0)&&decide (val (some (tN (xS s P)))<0))=true from by simp)];rfl
    ·rw[aTG (y8 ha),aTG ha];unfold rM;rw[wY]
end
section
variable {a b c:List UInt8}{d g:List (List UInt8)}{e:Int×(List rF×Unit)}{en:Bool}{m:List (List UInt8×Bool)}
theorem WW:xA .str .fn (wV a b c d e en g m) xL=true/\rV .str .fn (wV a b c d e en g m) xL=some 213:=by
 cases en<;>exact⟨rfl,rfl⟩
theorem aHu:xA .str .fn (wV a b c d e en g m) zF=true/\rV .str .fn (wV a b c d e en g m) zF=some 214:=by
 cases en<;>exact⟨rfl,rfl⟩
theorem aHv:xA .str .fn (wV a b c d e true g m) tG=true/\rV .str .fn (wV a b c d e true g m) tG=some 215:=⟨rfl,rfl⟩
theorem aHw:xA .str .fn (wV a b c d e true g m) tH=true/\rV .str .fn (wV a b c d e true g m) tH=some 216:=⟨rfl,rfl⟩
theorem aHx:xA .str .fn (wV a b c d e true g m) tW=true/\rV .str .fn (wV a b c d e true g m) tW=some 217:=⟨rfl,rfl⟩
theorem aHy:xA .str .fn (wV a b c d e true g m) D2=true/\rV .str .fn (wV a b c d e true g m) D2=some 218:=⟨rfl,rfl⟩
end
end Go.Proofs.YtbbpilohihldiaaGreatDoor
namespace Go.Proofs.YtbbpilohihldiaaGreatDoor
open Vc
theorem EF {v:Ty}(a b:List UInt8) (y:v.den): ∀l:List (List UInt8×v.den),rV .str v (sL .str v a y l) b=if b=a then y else rV .str v l b
 |[]=>by
  show (if decide (b=a)=true then y else v.zero)=if b=a then y else v.zero;by_cases h:b=a<;>simp [h]
 |(x,z)::r=>by
  have ih:=EF a b y r;show rV .str v (if decide (a=x)=true then(a,y)::r else(x,z)::sL .str v a y r) b=if b=a then y else(if decide (b=x)=true then z else rV .str v r b);by_cases h:a=x
  ·rw[aTD (aUM h)];show (if decide (b=a)=true then y else rV .str v r b)=_;by_cases hb:b=a
   ·rw[aTD (aUM hb),aTD hb]
   ·rw[aTG (by simpa using hb),aTG hb,aTG (by rw[<-h];simpa using hb)]
  ·rw[aTG (by simpa using h)];show (if decide (b=x)=true then z else rV .str v (sL .str v a y r) b)=_;rw[ih];by_cases hb:b=a
   ·rw[aTD hb,aTD hb,aTG (by rw[hb];simpa using h)]
   ·rw[aTG hb,aTG hb]
section
variable {a b c:List UInt8}{d g:List (List UInt8)}{e:Int×(List rF×Unit)}{en:Bool}{m:List (List UInt8×Bool)}{x:List UInt8}
theorem aOX (h1:x≠xL) (h2:x≠zF):xA .str .fn (wV a b c d e false g m) x=false:=by
 show (if decide (x=xL)=true then true else if decide (x=zF)=true then true else false)=false;rw[aTG (y8 h1),aTG (y8 h2)]
theorem aOY (h1:x≠xL) (h2:x≠zF) (h3:x≠tG) (h4:x≠tH) (h5:x≠tW) (h6:x≠D2):xA .str .fn (wV a b c d e true g m) x=false:=by
 show (if decide (x=xL)=true then true else if decide (x=zF)=true then true else if decide (x=tG)=true then true else if decide (x=tH)=true then true else if decide (x=tW)=true then true else if decide (x=D2)=true then true else false)=false;rw[aTG (y8 h1),aTG (y8 h2),aTG (y8 h3),aTG (y8 h4),aTG (y8 h5),aTG (y8 h6)]
end
abbrev IP:=Int×Int×List UInt8×Int×Int×Int×Int×Int×List UInt8×List UInt8×List (List UInt8)×Int×List rF×List (List UInt8)×List (List UInt8×Bool)
def s3 (r:R8) (sr tg:List UInt8) (cm:List (List UInt8)) (st:Int) (fd:List rF) (l:List (List UInt8)) (m:List (List UInt8×Bool)):IP:=
 (r.1,r.2.1,r.2.2.1,r.2.2.2.1,r.2.2.2.2.1,r.2.2.2.2.2.1,r.2.2.2.2.2.2.1,r.2.2.2.2.2.2.2,sr,tg,cm,st,fd,l,m)
section
variable {s:List UInt8}(hsm:s.length<=4000000000) {P:Nat}(hP:P<=s.length) {c:C4}{a en0 at0:Int}{ends:List Int}{ids:List (List UInt8×Bool)}
 {sr tg:List UInt8}{cm l:List (List UInt8)}{st:Int}{fd:List rF}{m:List (List UInt8×Bool)}{hd:Bool}
include hsm hP
omit hsm hP in
theorem IQ (hk:kS s P=2):(decide ((0:Int)=0)&&decide (kS s P=2))=true:=by simp [hk]
theorem aOZ (hk:kS s P=2) (hx:xS s P=xL) (hl:cm.length<=1000) (h20:cm.length≠20):vQ (s,(at0,())) c (ends,(en0,())) hd ids (s3 (tD s P a) sr tg cm st fd l m)=
  some (.inl (s3 (tV s (nS s (nS s P)) a (nS s (nS s P)) (kS s (nS s P)) (xS s (nS s P)) (fS s (nS s P)) (nS s (nS s P)) (nS s P) (tE (decide (kS s (nS s P)≠1)) false false)) sr tg (cm++[xS s (nS s P)]) st fd l m)):=by
 have hQ:=(sG hP).2;unfold vQ s3 tD;dsimp only;rw[aTD (IQ hk),hx,aTG (by rw[WW.1];decide)];unfold rM;rw[WW.2];dsimp only;rw[aTD rfl,aON hsm hQ hl h20,aTC];rfl
theorem aO0 (hk:kS s P=2) (hx:xS s P=xL) (h20:cm.length=20): ∃y,vQ (s,(at0,())) c (ends,(en0,())) hd ids (s3 (tD s P a) sr tg cm st fd l m)=
  some (.inl (s3 ((nS s P:Int),kS s P,xL,(fS s P:Int),(nS s P:Int),(fS s P:Int),6,(P:Int)) sr tg (cm++[y]) st fd l m)):=by
 have hQ:=(sG hP).2;unfold vQ s3 tD;dsimp only;rw[aTD (IQ hk),hx,aTG (by rw[WW.1];decide)];unfold rM;rw[WW.2];dsimp only;rw[aTD rfl];obtain⟨y,hy⟩:=aOO (c:=(c.1,(c.2.1,(c.2.2.1,(c.2.2.2.1,()))))) (a:=a) (en:=(P:Int)) (at0:=(nS s P:Int)) (f:=(fS s P:Int)) (t:=(nS s P:Int)) (k:=kS s P) (x:=xL) (ends:=ends) (ids:=ids) (b9:=[]) (b10:=sr) (b11:=tg) (b12:=cm) (b18:=l) (b13:=(st,(fd,()))) (b14:=hd) (b21:=m) h20;rw[hy,aTC];exact⟨y,rfl⟩
theorem aO1 (hk:kS s P=2) (hx:xS s P=zF) (hl:fd.length<=1000): ∃v,vQ (s,(at0,())) c (ends,(en0,())) hd ids (s3 (tD s P a) sr tg cm st fd l m)=
  some (.inl (s3 (if (tE (decide (kS s (nS s P)≠1)|| !rY (xS s (nS s P))) (fd.any fun y=>decide (y.1=xS s (nS s P))) (decide (fd.length=20)))=0 then tV s (nS s (nS s (nS s P))) a (nS s (nS s (nS s P))) (kS s (nS s (nS s P))) (xS s (nS s (nS s P))) (fS s (nS s (nS s P))) (nS s (nS s (nS s P))) (nS s (nS s P)) (tE (decide (kS s (nS s (nS s P))≠1)) false false)
   else((nS s (nS s P):Int),kS s (nS s P),xS s (nS s P),(fS s (nS s P):Int),(nS s (nS s P):Int),(fS s (nS s P):Int),(tE (decide (kS s (nS s P)≠1)|| !rY (xS s (nS s P))) (fd.any fun y=>decide (y.1=xS s (nS s P))) (decide (fd.length=20))),((nS s P):Int))) sr tg cm st (AU fd (xS s (nS s P)) v) l m))/\
  ((tE (decide (kS s (nS s P)≠1)|| !rY (xS s (nS s P))) (fd.any fun y=>decide (y.1=xS s (nS s P))) (decide (fd.length=20)))=0->v=xS s (nS s (nS s P))):=by
 have hQ:=(sG hP).2;unfold vQ s3 tD;dsimp only;rw[aTD (IQ hk),hx,aTG (by rw[aHu.1];decide)];unfold rM;rw[aHu.2];dsimp only;rw[aTG (by decide),aTD rfl];obtain⟨v,hv,h2⟩:=aOP hsm hQ (c:=(c.1,(c.2.1,(c.2.2.1,(c.2.2.2.1,()))))) (a:=a) (en:=(P:Int)) (f:=(fS s P:Int)) (k:=kS s P) (x:=zF) (ends:=ends) (ids:=ids) (b9:=[]) (b10:=sr) (b11:=tg) (b12:=cm) (b18:=l) (b13:=(st,(fd,()))) (b14:=hd) (b21:=m) hl;refine⟨v,?_,h2⟩;rw[hv,aTC];rfl
theorem aO2 (hk:kS s P=2) (hx:xS s P=tG): ∃v,vQ (s,(at0,())) c (ends,(en0,())) true ids (s3 (tD s P a) sr tg cm st fd l m)=
  some (.inl (s3 (if rV .str .bool m tG=true then(((nS s P):Int),kS s P,tG,(fS s P:Int),((nS s P):Int),(fS s P:Int),9,(P:Int)) else tV s (nS s (nS s P)) a (nS s (nS s P)) (kS s (nS s P)) (xS s (nS s P)) (fS s (nS s P)) (nS s (nS s P)) (nS s P) (tE (decide (kS s (nS s P)≠1)) false false)) v tg cm st fd l (sL .str .bool tG true m)))/\
  (¬rV .str .bool m tG=true->v=xS s (nS s P)):=by
 have hQ:=(sG hP).2;unfold vQ s3 tD;dsimp only;rw[aTD (IQ hk),hx,aTG (by rw[aHv.1];decide)];unfold rM;rw[aHv.2];dsimp only;rw[aTG (by decide),aTG (by decide),aTD rfl];obtain⟨v,hv,h2⟩:=aOQ hsm hQ (c:=(c.1,(c.2.1,(c.2.2.1,(c.2.2.2.1,()))))) (a:=a) (en:=(P:Int)) (f:=(fS s P:Int)) (k:=kS s P) (x:=tG) (ends:=ends) (ids:=ids) (b9:=[]) (b10:=sr) (b11:=tg) (b12:=cm) (b18:=l) (b13:=(st,(fd,()))) (b14:=true) (b21:=m);refine⟨v,?_,h2⟩;rw[hv,aTC];rfl
theorem aO3 (hk:kS s P=2) (hx:xS s P=tH): ∃v,vQ (s,(at0,())) c (ends,(en0,())) true ids (s3 (tD s P a) sr tg cm st fd l m)=
  some (.inl (s3 (if rV .str .bool m tH=true then(((nS s P):Int),kS s P,tH,(fS s P:Int),((nS s P):Int),(fS s P:Int),9,(P:Int)) else tV s (nS s (nS s P)) a (nS s (nS s P)) (kS s (nS s P)) (xS s (nS s P)) (fS s (nS s P)) (nS s (nS s P)) (nS s P) (tE (decide (kS s (nS s P)≠1)) false false)) sr v cm st fd l (sL .str .bool tH true m)))/\
  (¬rV .str .bool m tH=true->v=xS s (nS s P)):=by
 have hQ:=(sG hP).2;unfold vQ s3 tD;dsimp only;rw[aTD (IQ hk),hx,aTG (by rw[aHw.1];decide)];unfold rM;rw[aHw.2];dsimp only;rw[aTG (by decide),aTG (by decide),aTG (by decide),aTD rfl];obtain⟨v,hv,h2⟩:=aOR hsm hQ (c:=(c.1,(c.2.1,(c.2.2.1,(c.2.2.2.1,()))))) (a:=a) (en:=(P:Int)) (f:=(fS s P:Int)) (k:=kS s P) (x:=tH) (ends:=ends) (ids:=ids) (b9:=[]) (b10:=sr) (b11:=tg) (b12:=cm) (b18:=l) (b13:=(st,(fd,()))) (b14:=true) (b21:=m);refine⟨v,?_,h2⟩;rw[hv,aTC];rfl
theorem aO4 (hk:kS s P=2) (hx:xS s P=tW): ∃v,vQ (s,(at0,())) c (ends,(en0,())) true ids (s3 (tD s P a) sr tg cm st fd l m)=
  some (.inl (s3 (if rV .str .bool m tW=true then(((nS s P):Int),kS s P,tW,(fS s P:Int),((nS s P):Int),(fS s P:Int),9,(P:Int)) else tV s (nS s (nS s P)) a (nS s (nS s P)) (kS s (nS s P)) (xS s (nS s P)) (fS s (nS s P)) (nS s (nS s P)) (nS s P) (tE (decide (kS s (nS s P)≠2)|| !decide (0<=tN (xS s (nS s P)))) false false)) sr tg cm v fd l (sL .str .bool tW true m)))/\
  (¬rV .str .bool m tW=true->v=max 0 (tN (xS s (nS s P)))):=by
 have hQ:=(sG hP).2;unfold vQ s3 tD;dsimp only;rw[aTD (IQ hk),hx,aTG (by rw[aHx.1];decide)];unfold rM;rw[aHx.2];dsimp only;rw[aTG (by decide),aTG (by decide),aTG (by decide),aTG (by decide),aTD rfl];obtain⟨v,hv,h2⟩:=aOS hsm hQ (c:=(c.1,(c.2.1,(c.2.2.1,(c.2.2.2.1,()))))) (a:=a) (en:=(P:Int)) (f:=(fS s P:Int)) (k:=kS s P) (x:=tW) (ends:=ends) (ids:=ids) (b9:=[]) (b10:=sr) (b11:=tg) (b12:=cm) (b18:=l) (b13:=(st,(fd,()))) (b14:=true) (b21:=m);refine⟨v,?_,h2⟩;rw[hv,aTC];rfl
theorem aO5 (hk:kS s P=2) (hx:xS s P=D2) (hl:l.length<=1000):vQ (s,(at0,())) c (ends,(en0,())) true ids (s3 (tD s P a) sr tg cm st fd l m)=
  some (.inl (s3 (tV s (nS s (nS s P)) a (nS s (nS s P)) (kS s (nS s P)) (xS s (nS s P)) (fS s (nS s P)) (nS s (nS s P)) (nS s P) (tE (decide (kS s (nS s P)≠2)|| !rY (xS s (nS s P))) (l.any fun y=>decide (y=xS s (nS s P))) (decide (l.length=20)))) sr tg cm st fd (l++[xS s (nS s P)]) m)):=by
 have hQ:=(sG hP).2;unfold vQ s3 tD;dsimp only;rw[aTD (IQ hk),hx,aTG (by rw[aHy.1];decide)];unfold rM;rw[aHy.2];dsimp only;rw[aTG (by decide),aTG (by decide),aTG (by decide),aTG (by decide),aTG (by decide),aTD rfl];rw[TJ hsm hQ hl,aTC];rfl
theorem aHz (hk:kS s P=2) (hx: ∀b c' d e g m',xA .str .fn (wV [] b c' d e hd g m') (xS s P)=false):vQ (s,(at0,())) c (ends,(en0,())) hd ids (s3 (tD s P a) sr tg cm st fd l m)=
  some (.inr (s3 ((nS s P:Int),kS s P,xS s P,(fS s P:Int),(nS s P:Int),(fS s P:Int),3,(P:Int)) sr tg cm st fd l m)):=by
 unfold vQ s3 tD;dsimp only;rw[aTD (IQ hk),aTD (by rw[hx];rfl)];unfold rM;rw[WR]
theorem aO6 (hk:kS s P≠2):vQ (s,(at0,())) c (ends,(en0,())) hd ids (s3 (tD s P a) sr tg cm st fd l m)=
  some (.inr (s3 (tD s P a) sr tg cm st fd l m)):=by
 unfold vQ s3 tD;dsimp only;rw[aTG (by simp [hk])]
omit hsm hP in
theorem a8H {r:R8}(he:r.2.2.2.2.2.2.1≠0):vQ (s,(at0,())) c (ends,(en0,())) hd ids (s3 r sr tg cm st fd l m)=
  some (.inr (s3 r sr tg cm st fd l m)):=by
 unfold vQ s3;dsimp only;rw[aTG (by simp [he])]
end
theorem CG: ∀(x y:List UInt8),Op.bytesLess x y=decide (x<y)
 |[],[]=>by simp [Op.bytesLess]
 |_::_,[]=>by simp [Op.bytesLess]
 |[],_::_=>by simp [Op.bytesLess]
 |a::x,b::y=>by
  rw[Op.bytesLess,CG x y];simp only[List.cons_lt_cons_iff];by_cases h1:a<b<;>by_cases h2:a=b<;>by_cases h3:x<y<;>simp [h1,h2,h3]
theorem aHA (l:List (List UInt8)):(vZ l).Pairwise (·<=·):=by
 have:=List.pairwise_mergeSort (le:=fun x y:List UInt8=>decide (x<=y)) (fun a b c h1 h2=>aUM (List.le_trans (aUm h1) (aUm h2))) (fun a b=>by simpa using List.le_total a b) l;exact this.imp (fun h=>aUm h)
theorem WX (l:List (List UInt8)):(vZ l).Perm l:=List.mergeSort_perm l _
theorem a8I (l:List (List UInt8)):(vZ l).length=l.length:=(WX l).length_eq
theorem aO7 (l:List (List UInt8)) (p:List UInt8->Bool):(vZ l).any p=l.any p:=(WX l).any_eq
theorem aO8 (l:List (List UInt8)) (x:List UInt8):(EE l x).Perm (l++[x]):=by
 unfold EE;have h:(l.take (xK l x)++l.drop (xK l x))=l:=aU3 _ _;have h2:(l.take (xK l x)++[x]++l.drop (xK l x)).Perm (l.take (xK l x)++(l.drop (xK l x)++[x])):=by
  rw[aTN];exact List.Perm.append_left _ List.perm_append_comm
 have h3:l.take (xK l x)++(l.drop (xK l x)++[x])=l++[x]:=by rw[<-aTN,h]
 rw[h3] at h2;exact h2
theorem aO9 {l:List (List UInt8)}(x:List UInt8) (h:l.Pairwise (·<=·)):(EE l x).Pairwise (·<=·):=by
 have ht: ∀y∈l.take (xK l x),y<=x:=by
  intro y hy;obtain⟨j,hj,rfl⟩:=List.mem_iff_getElem.1 hy;rw[aT5] at hj;rw[List.getElem_take];have:Op.bytesLess l[j] x=true:=by
   have hk:xK l x=(l.findIdx? fun y=> !Op.bytesLess y x).getD l.length:=rfl;cases hf:l.findIdx? fun y=> !Op.bytesLess y x with
   |none=>
    have:=aUN.1 hf l[j] (aUB _);simpa using this
   |some n=>
    rw[hf] at hk;have:=(aUf.1 hf).2.2 j (by rw[hk] at hj;simp only[aU8] at hj;omega);simpa using this
  rw[CG] at this;exact List.le_of_lt (aUm this)
 have hd: ∀y∈l.drop (xK l x),x<=y:=by
  intro y hy;have hk:xK l x=(l.findIdx? fun y=> !Op.bytesLess y x).getD l.length:=rfl;cases hf:l.findIdx? fun y=> !Op.bytesLess y x with
  |none=>
   rw[hf] at hk;rw[hk] at hy;simp at hy
  |some n=>
   rw[hf] at hk;obtain⟨hn,h1,h2⟩:=aUf.1 hf;have hx:x<=l[n]:=by
    rw[CG] at h1;simp only[aT8,aUh] at h1;exact List.not_lt.1 h1
   rw[hk] at hy;simp only[aU8] at hy;rw[aT2 hn] at hy;rcases aTW.1 hy with rfl|hy
   ·exact hx
   ·have hp:(l.drop n).Pairwise (·<=·):=h.sublist (List.drop_sublist _ _);rw[aT2 hn] at hp;exact List.le_trans hx ((aVp.1 hp).1 y hy)
 unfold EE;rw[aTN];refine aUV.2 ⟨h.sublist (List.take_sublist _ _),aUV.2 ⟨aVi _ _,h.sublist (List.drop_sublist _ _),?_⟩,?_⟩
 ·intro a ha b hb;rw[aTQ.1 ha];exact hd b hb
 ·intro a ha b hb;have hax:=ht a ha;rcases aUz.1 hb with hb|hb
  ·rw[aTQ.1 hb];exact hax
  ·exact List.le_trans hax (hd b hb)
theorem aPa (l:List (List UInt8)) (x:List UInt8):EE (vZ l) x=vZ (l++[x]):=
 List.Perm.eq_of_pairwise (fun _ _ _ _ h1 h2=>List.le_antisymm h1 h2) (aO9 x (aHA l)) (aHA _)
  ((aO8 _ _).trans (((WX l).append_right _).trans (WX _).symm))
theorem aPb {b:UInt8}{t:List UInt8}(h:y6 b.toNat=true):0<xJ (b::t):=by
 unfold xJ;have hw:vN b=true:=by
  unfold vN RC;simp [h]
 rw[aUI,aTG (by simp [hw])];cases t.findIdx? fun b=> !vN b with
 |none=>simp
 |some n=>simp
theorem aPc {l:List UInt8}(h0:(uZ l).1≠0) (h4:(uZ l).1≠4):0<(uZ l).2.2:=by
 cases l with
 |nil=>exact absurd rfl h4
 |cons b t=>
  by_cases h1:b=123\/b=125
  ·rw[NJ h1];exact Nat.one_pos
  ·by_cases h2:b=34
   ·rw[NK h1 h2] at h0⊢;unfold y7 at*;cases he:sH 34 t with
    |none=>rw[he] at h0;exact absurd rfl h0
    |some n=>
     rw[he] at h0;dsimp only at*;split
     ·rename_i hh;rw[aTD hh] at h0;exact absurd rfl h0
     ·exact Nat.succ_pos _
   ·by_cases h3:y6 b.toNat=true
    ·rw[NL h1 h2 h3];exact aPb h3
    ·rw[NM h1 h2 h3] at h0;exact absurd rfl h0
theorem BM {s:List UInt8}{P:Nat}(h0:kS s P≠0) (h4:kS s P≠4):P<nS s P:=by
 unfold kS at*;unfold nS;unfold tU at*;split
 ·rename_i hg;rw[aTD hg] at h0 h4;have:=aPc h0 h4;dsimp only;omega
 ·rename_i hg;rw[aTG hg] at h0;exact absurd rfl h0
abbrev NQ:=Int×Int×Int×List UInt8×List UInt8×List (List UInt8)×List (List UInt8)×Int×List rF×Bool×Bool×Bool
section
variable {s:List UInt8}(hsm:s.length<=4000000000) {P:Nat}(hP:P<=s.length) {c:C4}{bad bad0 at0 e0:Int}{ends:List Int}
 {i1 sr tg:List UInt8}{cm fg:List (List UInt8)}{st:Int}{fd:List rF}{i:rD}{d1 d2 d3 hd:Bool}
include hsm hP
theorem AX (hk:kS s P=2):uG (s,(at0,(bad0,(e0,(c,(ends,())))))) i hd ((P:Int),bad,0,sr,tg,cm,fg,st,fd,d1,d2,d3)=
  (AP (s,((nS s P:Int),(bad,(0,(c,(ends,())))))) (i.1,(sr,(tg,(cm,(fg,(st,(fd,()))))))) (d1,(d2,(d3,()))) (2,(xS s P,((fS s P:Int),((nS s P:Int),())))) hd).bind fun r=>
   some (.inl (r.1,r.2.1,r.2.2.1,r.2.2.2.1,r.2.2.2.2.1,r.2.2.2.2.2.1,r.2.2.2.2.2.2.1,r.2.2.2.2.2.2.2.1,r.2.2.2.2.2.2.2.2.1,r.2.2.2.2.2.2.2.2.2.1,r.2.2.2.2.2.2.2.2.2.2.1,r.2.2.2.2.2.2.2.2.2.2.2)):=by
 have hkR:kR (kS s P)=2:=(AW (by decide) (by decide)).2 hk;unfold uG;dsimp only;rw[aTD (show decide ((0:Int)=0)=true from rfl),RJ hsm hP,aTC];dsimp only;rw[hkR,aTG (show¬(decide ((2:Int)=3)&&decide (xS s P=[125]))=true from by simp),aTG (show¬(!decide ((2:Int)=2))=true from by simp)]
theorem a8J (hk:kS s P=3) (hx:xS s P=[125]) (he:ends.length<=5000):uG (s,(at0,(bad0,(e0,(c,(ends,())))))) i hd ((P:Int),bad,0,sr,tg,cm,fg,st,fd,d1,d2,d3)=
  some (.inr (.inr ((nS s P:Int),bad,0,ends++[(nS s P:Int)],sr,tg,cm,fg,st,fd))):=by
 have hkR:kR (kS s P)=3:=(AW (by decide) (by decide)).2 hk;unfold uG;dsimp only;rw[aTD (show decide ((0:Int)=0)=true from rfl),RJ hsm hP,aTC];dsimp only;rw[hkR,aTD (show (decide ((3:Int)=3)&&decide (xS s P=[125]))=true from by simp [hx]),aTD (by simp;omega),aTD (by simp;omega)];rfl
theorem aHB (hk:kS s P≠2) (hx: ¬(kS s P=3/\xS s P=[125])):uG (s,(at0,(bad0,(e0,(c,(ends,())))))) i hd ((P:Int),bad,0,sr,tg,cm,fg,st,fd,d1,d2,d3)=
  some (.inr (.inr ((P:Int),(fS s P:Int),3,ends,sr,tg,cm,fg,st,fd))):=by
 have hk2:kR (kS s P)≠2:=fun h=>hk ((AW (by decide) (by decide)).1 h);have hk3: ¬(kR (kS s P)=3/\xS s P=[125]):=fun h=>hx ⟨(AW (by decide) (by decide)).1 h.1,h.2⟩;unfold uG;dsimp only;rw[aTD (show decide ((0:Int)=0)=true from rfl),RJ hsm hP,aTC];dsimp only;rw[aTG (show¬(decide (kR (kS s P)=3)&&decide (xS s P=[125]))=true from by simpa using hk3),aTD (show (!decide (kR (kS s P)=2))=true from by simpa using hk2)];unfold rM;rw[wY]
omit hsm hP in
theorem RL {e p:Int}(he:e≠0):uG (s,(at0,(bad0,(e0,(c,(ends,())))))) i hd (p,bad,e,sr,tg,cm,fg,st,fd,d1,d2,d3)=
  some (.inr (.inl (p,bad,e,sr,tg,cm,fg,st,fd))):=by
 unfold uG;dsimp only;rw[aTG (show¬decide (e=0)=true from by simpa using he)]
def sB (s:List UInt8) (P:Nat) (a bad:Int) (ps:IP⊕IP) (rs:NQ):Prop:=
 ∃(P':Nat) (sr tg:List UInt8) (cm:List (List UInt8)) (st:Int) (fd:List rF) (l:List (List UInt8)) (m:List (List UInt8×Bool)),
  P<P'/\P'<=s.length/\ps= .inl (s3 (tD s P' a) sr tg cm st fd l m)/\rs=((P':Int),bad,0,sr,tg,cm,vZ l,st,fd,rV .str .bool m tG,rV .str .bool m tH,rV .str .bool m tW)/\
  cm.length<=20/\fd.length<=20/\l.length<=20
def Bad (ps:IP⊕IP) (rs:NQ):Prop:=
 ∃(r:R8) (sr tg:List UInt8) (cm:List (List UInt8)) (st:Int) (fd:List rF) (l:List (List UInt8)) (m:List (List UInt8×Bool)),
  r.2.2.2.2.2.2.1≠0/\(ps= .inl (s3 r sr tg cm st fd l m)\/ps= .inr (s3 r sr tg cm st fd l m))/\l.length<=21/\rs.2.1=r.2.2.2.2.2.1/\rs.2.2.1=r.2.2.2.2.2.2.1
end
theorem aHC (d1 d2 d3:Bool):((decide (tG=tG)&&d1)||(decide (tG=tH)&&d2)||(decide (tG=tW)&&d3))=d1:=by cases d1<;>cases d2<;>cases d3<;>rfl
theorem aHD (d1 d2 d3:Bool):((decide (tH=tG)&&d1)||(decide (tH=tH)&&d2)||(decide (tH=tW)&&d3))=d2:=by cases d1<;>cases d2<;>cases d3<;>rfl
theorem aHE (d1 d2 d3:Bool):((decide (tW=tG)&&d1)||(decide (tW=tH)&&d2)||(decide (tW=tW)&&d3))=d3:=by cases d1<;>cases d2<;>cases d3<;>rfl
theorem D3 {s:List UInt8}{P:Nat}{a at0 k:Int}{x:List UInt8}{f t en code:Int}(h:code=0):tV s P a at0 k x f t en code=tD s P a:=aTD h
theorem xM {s:List UInt8}{P:Nat}{a at0 k:Int}{x:List UInt8}{f t en code:Int}(h:code≠0):tV s P a at0 k x f t en code=(at0,k,x,f,t,f,code,en):=aTG h
theorem yQ {r:R8}{sr tg:List UInt8}{cm:List (List UInt8)}{st:Int}{fd:List rF}{l:List (List UInt8)}{m:List (List UInt8×Bool)}{rs:NQ}{f e:Int}
  (h1:r.2.2.2.2.2.1=f) (h2:r.2.2.2.2.2.2.1=e) (he:e≠0) (hl:l.length<=21) (h3:rs.2.1=f) (h4:rs.2.2.1=e):Bad (.inl (s3 r sr tg cm st fd l m)) rs:=
 ⟨r,sr,tg,cm,st,fd,l,m,by rw[h2];exact he,.inl rfl,hl,h3.trans h1.symm,h4.trans h2.symm⟩
theorem aHF {r:R8}{sr tg:List UInt8}{cm:List (List UInt8)}{st:Int}{fd:List rF}{l:List (List UInt8)}{m:List (List UInt8×Bool)}{rs:NQ}{f e:Int}
  (h1:r.2.2.2.2.2.1=f) (h2:r.2.2.2.2.2.2.1=e) (he:e≠0) (hl:l.length<=21) (h3:rs.2.1=f) (h4:rs.2.2.1=e):Bad (.inr (s3 r sr tg cm st fd l m)) rs:=
 ⟨r,sr,tg,cm,st,fd,l,m,by rw[h2];exact he,.inr rfl,hl,h3.trans h1.symm,h4.trans h2.symm⟩
section
variable {s:List UInt8}(hsm:s.length<=4000000000) {P:Nat}(hP:P<=s.length) {c c2:C4}{a en0 at0 at1 bad bad0 e0:Int}{ends ends2:List Int}{ids:List (List UInt8×Bool)}
 {sr tg:List UInt8}{cm l:List (List UInt8)}{st:Int}{fd:List rF}{m:List (List UInt8×Bool)}{hd:Bool}{i:rD}
include hsm hP
def zG (s:List UInt8) (P:Nat) (c c2:C4) (a en0 at0 at1 bad bad0 e0:Int) (ends ends2:List Int) (ids:List (List UInt8×Bool)) (sr tg:List UInt8) (cm l:List (List UInt8)) (st:Int) (fd:List rF) (m:List (List UInt8×Bool)) (hd:Bool) (i:rD):Prop:=
 ∃ps rs,vQ (s,(at0,())) c (ends,(en0,())) hd ids (s3 (tD s P a) sr tg cm st fd l m)=some ps/\
  uG (s,(at1,(bad0,(e0,(c2,(ends2,())))))) i (!hd) ((P:Int),bad,0,sr,tg,cm,vZ l,st,fd,rV .str .bool m tG,rV .str .bool m tH,rV .str .bool m tW)=some (.inl rs)/\
  (sB s P a bad ps rs\/Bad ps rs)
theorem aPd (hk:kS s P=2) (hx:xS s P=xL) (h1:cm.length<=20) (h2:fd.length<=20) (h3:l.length<=20):zG s P c c2 a en0 at0 at1 bad bad0 e0 ends ends2 ids sr tg cm l st fd m hd i:=by
 have hQ:=(sG hP).2;have hPQ:P<nS s P:=BM (by omega) (by omega);have hR:=sG hQ;unfold zG;rw[AX hsm hP hk];by_cases h20:cm.length=20
 ·obtain⟨y,hy⟩:=aO0 (c:=c) (a:=a) (en0:=en0) (at0:=at0) (ends:=ends) (ids:=ids) (sr:=sr) (tg:=tg) (l:=l) (st:=st) (fd:=fd) (m:=m) (hd:=hd) hsm hP hk hx h20;rw[hy,aHs hsm hQ hx (by omega),aTC];exact⟨_,_,rfl,rfl,.inr (yQ rfl rfl (show (6:Int)≠0 from by decide) (by omega) rfl rfl)⟩
 ·rw[aOZ hsm hP hk hx (by omega) h20,a8E hsm hQ hx (by omega),aTC];by_cases hk1:kS s (nS s P)=1
  ·rw[aTD hk1,D3 (D1 (by simp [hk1]) (by simp) (by simp))];exact⟨_,_,rfl,rfl,.inl ⟨nS s (nS s P),sr,tg,cm++[xS s (nS s P)],st,fd,l,m,by omega,hR.2,rfl,rfl,by simp;omega,h2,h3⟩⟩
  ·rw[aTG hk1,zD (by simp [hk1]),xM (by decide)];exact⟨_,_,rfl,rfl,.inr (yQ rfl rfl (show (3:Int)≠0 from by decide) (by omega) rfl rfl)⟩
theorem aPe (hk:kS s P=2) (hx:xS s P=tG) (h1:cm.length<=20) (h2:fd.length<=20) (h3:l.length<=20):zG s P c c2 a en0 at0 at1 bad bad0 e0 ends ends2 ids sr tg cm l st fd m true i:=by
 have hQ:=(sG hP).2;have hPQ:P<nS s P:=BM (by omega) (by omega);have hR:=sG hQ;unfold zG;rw[AX hsm hP hk,show (!true)=false from rfl,hx,IN hsm hQ (by decide) (by decide) (by decide),aHC,aTC];obtain⟨v,hv,h5⟩:=aO2 (c:=c) (a:=a) (en0:=en0) (at0:=at0) (ends:=ends) (ids:=ids) (sr:=sr) (tg:=tg) (cm:=cm) (l:=l) (st:=st) (fd:=fd) (m:=m) hsm hP hk hx;rw[hv];by_cases hd1:rV .str .bool m tG=true
 ·rw[aTD hd1,aTD hd1];exact⟨_,_,rfl,rfl,.inr (yQ rfl rfl (show (9:Int)≠0 from by decide) (by omega) rfl rfl)⟩
 ·rw[aTG hd1,aTG hd1,aTD rfl,h5 hd1];by_cases hk1:kS s (nS s P)=1
  ·rw[aTD hk1,D3 (D1 (by simp [hk1]) (by simp) (by simp))];refine⟨_,_,rfl,rfl,.inl ⟨nS s (nS s P),xS s (nS s P),tg,cm,st,fd,l,sL .str .bool tG true m,by omega,hR.2,rfl,?_,h1,h2,h3⟩⟩;rw[EF,EF,EF,aTD rfl,aTG (by decide),aTG (by decide)]
  ·rw[aTG hk1,zD (by simp [hk1]),xM (by decide)];exact⟨_,_,rfl,rfl,.inr (yQ rfl rfl (show (3:Int)≠0 from by decide) (by omega) rfl rfl)⟩
theorem aPf (hk:kS s P=2) (hx:xS s P=tH) (h1:cm.length<=20) (h2:fd.length<=20) (h3:l.length<=20):zG s P c c2 a en0 at0 at1 bad bad0 e0 ends ends2 ids sr tg cm l st fd m true i:=by
 have hQ:=(sG hP).2;have hPQ:P<nS s P:=BM (by omega) (by omega);have hR:=sG hQ;unfold zG;rw[AX hsm hP hk,show (!true)=false from rfl,hx,IN hsm hQ (by decide) (by decide) (by decide),aHD,aTC];obtain⟨v,hv,h5⟩:=aO3 (c:=c) (a:=a) (en0:=en0) (at0:=at0) (ends:=ends) (ids:=ids) (sr:=sr) (tg:=tg) (cm:=cm) (l:=l) (st:=st) (fd:=fd) (m:=m) hsm hP hk hx;rw[hv];by_cases hd1:rV .str .bool m tH=true
 ·rw[aTD hd1,aTD hd1];exact⟨_,_,rfl,rfl,.inr (yQ rfl rfl (show (9:Int)≠0 from by decide) (by omega) rfl rfl)⟩
 ·rw[aTG hd1,aTG hd1,aTG (by decide),aTD rfl,h5 hd1];by_cases hk1:kS s (nS s P)=1
  ·rw[aTD hk1,D3 (D1 (by simp [hk1]) (by simp) (by simp))];refine⟨_,_,rfl,rfl,.inl ⟨nS s (nS s P),sr,xS s (nS s P),cm,st,fd,l,sL .str .bool tH true m,by omega,hR.2,rfl,?_,h1,h2,h3⟩⟩;rw[EF,EF,EF,aTG (by decide),aTD rfl,aTG (by decide)]
  ·rw[aTG hk1,zD (by simp [hk1]),xM (by decide)];exact⟨_,_,rfl,rfl,.inr (yQ rfl rfl (show (3:Int)≠0 from by decide) (by omega) rfl rfl)⟩
theorem aPg (hk:kS s P=2) (hx:xS s P=tW) (h1:cm.length<=20) (h2:fd.length<=20) (h3:l.length<=20):zG s P c c2 a en0 at0 at1 bad bad0 e0 ends ends2 ids sr tg cm l st fd m true i:=by
 have hQ:=(sG hP).2;have hPQ:P<nS s P:=BM (by omega) (by omega);have hR:=sG hQ;unfold zG;rw[AX hsm hP hk,show (!true)=false from rfl,hx,IN hsm hQ (by decide) (by decide) (by decide),aHE,aTC];obtain⟨v,hv,h5⟩:=aO4 (c:=c) (a:=a) (en0:=en0) (at0:=at0) (ends:=ends) (ids:=ids) (sr:=sr) (tg:=tg) (cm:=cm) (l:=l) (st:=st) (fd:=fd) (m:=m) hsm hP hk hx;rw[hv];by_cases hd1:rV .str .bool m tW=true
 ·rw[aTD hd1,aTD hd1];exact⟨_,_,rfl,rfl,.inr (yQ rfl rfl (show (9:Int)≠0 from by decide) (by omega) rfl rfl)⟩
 ·rw[aTG hd1,aTG hd1,aTG (by decide),aTG (by decide),aTD rfl,h5 hd1];by_cases hk1:kS s (nS s P)=2
  ·rw[aTD hk1];by_cases h6:tN (xS s (nS s P))<0
   ·rw[aTD h6,zD (by simp [hk1];omega),xM (by decide)];exact⟨_,_,rfl,rfl,.inr (yQ rfl rfl (show (3:Int)≠0 from by decide) (by omega) rfl rfl)⟩
   ·rw[aTG h6,D3 (D1 (by simp [hk1];omega) (by simp) (by simp)),show max 0 (tN (xS s (nS s P)))=tN (xS s (nS s P)) by omega];refine⟨_,_,rfl,rfl,.inl ⟨nS s (nS s P),sr,tg,cm,tN (xS s (nS s P)),fd,l,sL .str .bool tW true m,by omega,hR.2,rfl,?_,h1,h2,h3⟩⟩;rw[EF,EF,EF,aTG (by decide),aTG (by decide),aTD rfl]
  ·rw[aTG hk1,zD (by simp [hk1]),xM (by decide)];exact⟨_,_,rfl,rfl,.inr (yQ rfl rfl (show (3:Int)≠0 from by decide) (by omega) rfl rfl)⟩
theorem aPh (hk:kS s P=2) (hx:xS s P=zF) (h1:cm.length<=20) (h2:fd.length<=20) (h3:l.length<=20):zG s P c c2 a en0 at0 at1 bad bad0 e0 ends ends2 ids sr tg cm l st fd m hd i:=by
 have hQ:=(sG hP).2;have hPQ:P<nS s P:=BM (by omega) (by omega);have hR:=sG hQ;have hR2:=sG hR.2;unfold zG;rw[AX hsm hP hk,a8F hsm hQ hx (by omega),aTC];obtain⟨v,hv,h5⟩:=aO1 (c:=c) (a:=a) (en0:=en0) (at0:=at0) (ends:=ends) (ids:=ids) (sr:=sr) (tg:=tg) (cm:=cm) (l:=l) (st:=st) (fd:=fd) (m:=m) (hd:=hd) hsm hP hk hx (by omega);rw[hv];unfold FH;by_cases hk1:kS s (nS s P)=1
 ·rw[aTG (show¬kS s (nS s P)≠1 from fun h=>h hk1)];by_cases hn:rY (xS s (nS s P))=true
  ·rw[aTG (show¬rY (xS s (nS s P))=false from by simp [hn])];have hb: ¬(decide (kS s (nS s P)≠1)|| !rY (xS s (nS s P)))=true:=by simp [hk1,hn]
   by_cases hdup:(fd.any fun y=>decide (y.1=xS s (nS s P)))=true
   ·rw[aTD hdup,NN hb hdup,aTG (show¬(9:Int)=0 from by decide)];exact⟨_,_,rfl,rfl,.inr (yQ rfl rfl (show (9:Int)≠0 from by decide) (by omega) rfl rfl)⟩
   ·rw[aTG hdup];by_cases h20:fd.length=20
    ·rw[aTD (show 20<=fd.length by omega),NO hb hdup (aUM h20),aTG (show¬(6:Int)=0 from by decide)];exact⟨_,_,rfl,rfl,.inr (yQ rfl rfl (show (6:Int)≠0 from by decide) (by omega) rfl rfl)⟩
    ·have hc:=D1 hb hdup (show¬decide (fd.length=20)=true from by simp [h20]);rw[aTG (show¬20<=fd.length by omega),h5 hc,hc,aTD rfl];by_cases hk2:kS s (nS s (nS s P))=1
     ·rw[aTG (show¬kS s (nS s (nS s P))≠1 from fun h=>h hk2),D3 (D1 (by simp [hk2]) (by simp) (by simp))];have hl:=aNI fd (xS s (nS s P)) (xS s (nS s (nS s P)));exact⟨_,_,rfl,rfl,.inl ⟨nS s (nS s (nS s P)),sr,tg,cm,st,AU fd (xS s (nS s P)) (xS s (nS s (nS s P))),l,m,by omega,hR2.2,rfl,rfl,h1,by omega,h3⟩⟩
     ·rw[aTD hk2,zD (by simp [hk2]),xM (by decide)];exact⟨_,_,rfl,rfl,.inr (yQ rfl rfl (show (3:Int)≠0 from by decide) (by omega) rfl rfl)⟩
  ·have hn':rY (xS s (nS s P))=false:=by simpa using hn
   rw[aTD hn',zD (by simp [hn']),aTG (show¬(3:Int)=0 from by decide)];exact⟨_,_,rfl,rfl,.inr (yQ rfl rfl (show (3:Int)≠0 from by decide) (by omega) rfl rfl)⟩
 ·rw[aTD hk1,zD (by simp [hk1]),aTG (show¬(3:Int)=0 from by decide)];exact⟨_,_,rfl,rfl,.inr (yQ rfl rfl (show (3:Int)≠0 from by decide) (by omega) rfl rfl)⟩
theorem aPi (hk:kS s P=2) (hx:xS s P=D2) (h1:cm.length<=20) (h2:fd.length<=20) (h3:l.length<=20):zG s P c c2 a en0 at0 at1 bad bad0 e0 ends ends2 ids sr tg cm l st fd m true i:=by
 have hQ:=(sG hP).2;have hPQ:P<nS s P:=BM (by omega) (by omega);have hR:=sG hQ;have hsl:=a8I l;unfold zG;rw[AX hsm hP hk,show (!true)=false from rfl,a8G hsm hQ hx (by omega),aTC,aO5 hsm hP hk hx (by omega)];unfold FI;rw[aO7,hsl,aPa];by_cases hk1:kS s (nS s P)=2
 ·rw[aTG (show¬kS s (nS s P)≠2 from fun h=>h hk1)];by_cases hn:rY (xS s (nS s P))=true
  ·rw[aTG (show¬rY (xS s (nS s P))=false from by simp [hn])];have hb: ¬(decide (kS s (nS s P)≠2)|| !rY (xS s (nS s P)))=true:=by simp [hk1,hn]
   by_cases hdup:(l.any fun y=>decide (y=xS s (nS s P)))=true
   ·rw[aTD hdup,NN hb hdup,xM (by decide)];exact⟨_,_,rfl,rfl,.inr (yQ rfl rfl (show (9:Int)≠0 from by decide) (by simp;omega) rfl rfl)⟩
   ·rw[aTG hdup];by_cases h20:l.length=20
    ·rw[aTD (show 20<=l.length by omega),NO hb hdup (aUM h20),xM (by decide)];exact⟨_,_,rfl,rfl,.inr (yQ rfl rfl (show (6:Int)≠0 from by decide) (by simp;omega) rfl rfl)⟩
    ·rw[aTG (show¬20<=l.length by omega),D3 (D1 hb hdup (show¬decide (l.length=20)=true from by simp [h20]))];exact⟨_,_,rfl,rfl,.inl ⟨nS s (nS s P),sr,tg,cm,st,fd,l++[xS s (nS s P)],m,by omega,hR.2,rfl,rfl,h1,h2,by simp;omega⟩⟩
  ·have hn':rY (xS s (nS s P))=false:=by simpa using hn
   rw[aTD hn',zD (by simp [hn']),xM (by decide)];exact⟨_,_,rfl,rfl,.inr (yQ rfl rfl (show (3:Int)≠0 from by decide) (by simp;omega) rfl rfl)⟩
 ·rw[aTD hk1,zD (by simp [hk1]),xM (by decide)];exact⟨_,_,rfl,rfl,.inr (yQ rfl rfl (show (3:Int)≠0 from by decide) (by simp;omega) rfl rfl)⟩
theorem aPj (hk:kS s P=2) (hx:xS s P≠xL) (hx2:xS s P≠zF) (h3:l.length<=20):zG s P c c2 a en0 at0 at1 bad bad0 e0 ends ends2 ids sr tg cm l st fd m false i:=by
 have hQ:=(sG hP).2;unfold zG;rw[AX hsm hP hk,show (!false)=true from rfl,aHt hsm hQ hx hx2,aTC,aHz hsm hP hk (fun _ _ _ _ _ _=>aOX hx hx2)];exact⟨_,_,rfl,rfl,.inr (aHF rfl rfl (show (3:Int)≠0 from by decide) (by omega) rfl rfl)⟩
theorem aPk (hk:kS s P=2) (hx:xS s P≠xL) (hx2:xS s P≠zF) (hx3:xS s P≠tG) (hx4:xS s P≠tH) (hx5:xS s P≠tW) (hx6:xS s P≠D2) (h3:l.length<=20):zG s P c c2 a en0 at0 at1 bad bad0 e0 ends ends2 ids sr tg cm l st fd m true i:=by
 have hQ:=(sG hP).2;unfold zG;rw[AX hsm hP hk,show (!true)=false from rfl,IN hsm hQ hx hx2 hx6,aTC,aHz hsm hP hk (fun _ _ _ _ _ _=>aOY hx hx2 hx3 hx4 hx5 hx6),
  aTG (by simp [hx3,hx4,hx5]),aTG hx3,aTG hx4,aTG hx5]
 exact⟨_,_,rfl,rfl,.inr (aHF rfl rfl (show (3:Int)≠0 from by decide) (by omega) rfl rfl)⟩
theorem aPl (hk:kS s P=2) (h1:cm.length<=20) (h2:fd.length<=20) (h3:l.length<=20):zG s P c c2 a en0 at0 at1 bad bad0 e0 ends ends2 ids sr tg cm l st fd m hd i:=by
 by_cases hx:xS s P=xL
 ·exact aPd hsm hP hk hx h1 h2 h3
 by_cases hx2:xS s P=zF
 ·exact aPh hsm hP hk hx2 h1 h2 h3
 cases hd with
 |false=>exact aPj hsm hP hk hx hx2 h3
 |true=>
  by_cases hx3:xS s P=tG
  ·exact aPe hsm hP hk hx3 h1 h2 h3
  by_cases hx4:xS s P=tH
  ·exact aPf hsm hP hk hx4 h1 h2 h3
  by_cases hx5:xS s P=tW
  ·exact aPg hsm hP hk hx5 h1 h2 h3
  by_cases hx6:xS s P=D2
  ·exact aPi hsm hP hk hx6 h1 h2 h3
  exact aPk hsm hP hk hx hx2 hx3 hx4 hx5 hx6 h3
end
abbrev S9:=Int×Int×Int×List UInt8×List UInt8×List (List UInt8)×List (List UInt8)×Int×List rF
abbrev IR:=Int×Int×Int×List Int×List UInt8×List UInt8×List (List UInt8)×List (List UInt8)×Int×List rF
def aPm (s:List UInt8) (P:Nat) (a bad:Int) (ends2:List Int) (po:IP) (ro:S9⊕IR):Prop:=
 ∃(P':Nat) (sr tg:List UInt8) (cm:List (List UInt8)) (st:Int) (fd:List rF) (l:List (List UInt8)) (m:List (List UInt8×Bool)),
  P<=P'/\P'<=s.length/\kS s P'=3/\xS s P'=[125]/\po=s3 (tD s P' a) sr tg cm st fd l m/\ro= .inr ((nS s P':Int),bad,0,ends2++[(nS s P':Int)],sr,tg,cm,vZ l,st,fd)/\
  cm.length<=20/\fd.length<=20/\l.length<=20
def aPn (s:List UInt8) (P:Nat) (a:Int) (po:IP) (ro:S9⊕IR):Prop:=
 ∃(P':Nat) (sr tg:List UInt8) (cm:List (List UInt8)) (st:Int) (fd:List rF) (l:List (List UInt8)) (m:List (List UInt8×Bool)) (r:IR),
  P<=P'/\P'<=s.length/\¬(kS s P'=3/\xS s P'=[125])/\po=s3 (tD s P' a) sr tg cm st fd l m/\ro= .inr r/\r.2.1=(fS s P':Int)/\r.2.2.1=3/\l.length<=21
def aPo (po:IP) (ro:S9⊕IR):Prop:=
 ∃(r:R8) (sr tg:List UInt8) (cm:List (List UInt8)) (st:Int) (fd:List rF) (l:List (List UInt8)) (m:List (List UInt8×Bool)) (r9:S9),
  r.2.2.2.2.2.2.1≠0/\po=s3 r sr tg cm st fd l m/\l.length<=21/\ro= .inl r9/\r9.2.1=r.2.2.2.2.2.1/\r9.2.2.1=r.2.2.2.2.2.2.1
theorem CH {σ ρ:Type}{f:σ->Option (σ⊕ρ)}{x y:σ}(h:f x=some (.inl y)):qB f x=qB f y:=by
 rw[xV,h];rfl
theorem vU {σ ρ:Type}{f:σ->Option (σ⊕ρ)}{x:σ}{r:ρ}(h:f x=some (.inr r)):qB f x=some r:=by
 rw[xV,h];rfl
section
variable {s:List UInt8}(hsm:s.length<=4000000000) {c c2:C4}{a en0 at0 at1 bad bad0 e0:Int}{ends ends2:List Int}(hends:ends2.length<=5000) {ids:List (List UInt8×Bool)}{hd:Bool}{i:rD}
include hsm hends
theorem aHG: ∀(n P:Nat) (sr tg:List UInt8) (cm l:List (List UInt8)) (st:Int) (fd:List rF) (m:List (List UInt8×Bool)),
  s.length-P<=n->P<=s.length->cm.length<=20->fd.length<=20->l.length<=20->
  ∃po ro,qB (vQ (s,(at0,())) c (ends,(en0,())) hd ids) (s3 (tD s P a) sr tg cm st fd l m)=some po/\
   qB (uG (s,(at1,(bad0,(e0,(c2,(ends2,())))))) i (!hd)) ((P:Int),bad,0,sr,tg,cm,vZ l,st,fd,rV .str .bool m tG,rV .str .bool m tH,rV .str .bool m tW)=some ro/\
   (aPm s P a bad ends2 po ro\/aPn s P a po ro\/aPo po ro)
 |n,P,sr,tg,cm,l,st,fd,m,hn,hP,h1,h2,h3=>by
  by_cases hk:kS s P=2
  ·obtain⟨ps,rs,hp,hr,hgb⟩:=aPl (c:=c) (c2:=c2) (a:=a) (en0:=en0) (at0:=at0) (at1:=at1) (bad:=bad) (bad0:=bad0) (e0:=e0) (ends:=ends) (ends2:=ends2) (ids:=ids) (sr:=sr) (tg:=tg) (st:=st) (m:=m) (hd:=hd) (i:=i) hsm hP hk h1 h2 h3;rw[CH hr];rcases hgb with⟨P',sr',tg',cm',st',fd',l',m',g1,g2,rfl,rfl,g3,g4,g5⟩ |⟨r,sr',tg',cm',st',fd',l',m',b1,b2,b3,b4,b5⟩
   ·rw[CH hp]
    match n,hn with
    |0,hn=>exact absurd g2 (by omega)
    |n+1,hn=>
     obtain⟨po,ro,i1,i2,i3⟩:=aHG n P' sr' tg' cm' l' st' fd' m' (by omega) g2 g3 g4 g5;refine⟨po,ro,i1,i2,?_⟩;rcases i3 with⟨Q,x1,x2,x3,x4,x5,x6,x7,y1,y2⟩ |⟨Q,x1,x2,x3,x4,x5,x6,x7,x8,y1,y2⟩ |h
     ·exact .inl ⟨Q,x1,x2,x3,x4,x5,x6,x7,by omega,y2⟩
     ·exact .inr (.inl ⟨Q,x1,x2,x3,x4,x5,x6,x7,x8,by omega,y2⟩)
     ·exact .inr (.inr h)
   ·obtain⟨q1,q2,q3,q4⟩:=rs;have hre:q3≠0:=by rw[show q3=r.2.2.2.2.2.2.1 from b5];exact b1
    rw[vU (RL (s:=s) (c:=c2) (bad:=q2) (bad0:=bad0) (at0:=at1) (e0:=e0) (ends:=ends2) (i:=i) (hd:= !hd) (p:=q1) (sr:=q4.1) (tg:=q4.2.1) (cm:=q4.2.2.1) (fg:=q4.2.2.2.1) (st:=q4.2.2.2.2.1) (fd:=q4.2.2.2.2.2.1) (d1:=q4.2.2.2.2.2.2.1) (d2:=q4.2.2.2.2.2.2.2.1) (d3:=q4.2.2.2.2.2.2.2.2) hre)];rcases b2 with rfl|rfl
    ·rw[CH hp,vU (a8H b1)];exact⟨_,_,rfl,rfl,.inr (.inr ⟨r,sr',tg',cm',st',fd',l',m',_,b1,rfl,b3,rfl,b4,b5⟩)⟩
    ·rw[vU hp];exact⟨_,_,rfl,rfl,.inr (.inr ⟨r,sr',tg',cm',st',fd',l',m',_,b1,rfl,b3,rfl,b4,b5⟩)⟩
  ·rw[vU (aO6 hsm hP hk)];by_cases hb:kS s P=3/\xS s P=[125]
   ·rw[vU (a8J hsm hP hb.1 hb.2 hends)];exact⟨_,_,rfl,rfl,.inl ⟨P,sr,tg,cm,st,fd,l,m,aTZ _,hP,hb.1,hb.2,rfl,rfl,h1,h2,h3⟩⟩
   ·rw[vU (aHB hsm hP hk hb)];exact⟨_,_,rfl,rfl,.inr (.inl ⟨P,sr,tg,cm,st,fd,l,m,_,aTZ _,hP,hb,rfl,rfl,rfl,rfl,by omega⟩)⟩
end
abbrev KV (y:rD):Prop:=pS y.2.2.2.1/\pS y.2.2.2.2.1/\pS y.2.2.2.2.2.2.1
abbrev B15:=List UInt8×List UInt8×List (List UInt8)×List (List UInt8)×Int×List rF×Int×Int×List UInt8×Int×Int×Int×Int×List Int×Int
abbrev i0 (i1:List UInt8):rD:=(i1,([],([],([],([],(0,([],())))))))
def aPp (s:List UInt8) (P:Nat) (a bad:Int) (ends ends2:List Int) (po:B15) (ro:IR):Prop:=
 ∃(P':Nat) (sr tg:List UInt8) (cm fg:List (List UInt8)) (st:Int) (fd:List rF),P<P'/\P'<=s.length/\
  po=(sr,tg,cm,fg,st,fd,(nS s P':Int),kS s P',xS s P',(fS s P':Int),(nS s P':Int),a,0,ends++[(P':Int)],(P':Int))/\
  ro=((P':Int),bad,0,ends2++[(P':Int)],sr,tg,cm,fg,st,fd)/\pS cm/\pS fg/\pS fd
def aPq (po:B15) (ro:IR):Prop:=
 po.2.2.2.2.2.2.2.2.2.2.2.2.1≠0/\ro.2.1=po.2.2.2.2.2.2.2.2.2.2.2.1/\ro.2.2.1=po.2.2.2.2.2.2.2.2.2.2.2.2.1
section
variable {s:List UInt8}(hsm:s.length<=4000000000) {P:Nat}(hP:P<=s.length) {c c2:C4}{a en at0 bad k f t e:Int}{x i1:List UInt8}{ends ends2:List Int}(hends:ends.length<=5000) (hends2:ends2.length<=5000) {ids:List (List UInt8×Bool)}{hd:Bool}{i:rD}
include hends
theorem IS (he:e≠0): ∃po,vM (s,(at0,())) (k,(x,(f,(t,())))) a e c (ends,(en,())) hd ids=some po/\po.2.2.2.2.2.2.2.2.2.2.2.1=a/\po.2.2.2.2.2.2.2.2.2.2.2.2.1=e:=by
 unfold vM;rw[WT he,aTC];dsimp only;have h:=vU (a8H (s:=s) (at0:=at0) (c:=c) (ends:=ends) (en0:=en) (ids:=ids) (hd:=hd) (sr:=[]) (tg:=[]) (cm:=[]) (st:=0) (fd:=[]) (l:=[]) (m:=[]) (r:=(at0,k,x,f,t,a,e,en)) he);unfold s3 at h;dsimp only at h;rw[h];unfold rH;rw[aTC];dsimp only;rw[WT he,aTC,aTD (by decide),aTD (by simp;omega)];exact⟨_,rfl,rfl,rfl⟩
include hsm hP hends2
theorem aHI: ∃po ro,vM (s,((nS s P:Int),())) (kS s P,(xS s P,((fS s P:Int),((nS s P:Int),())))) a 0 c (ends,(en,())) hd ids=some po/\
  xE (s,((P:Int),(bad,(0,(c2,(ends2,())))))) (i0 i1) (!hd)=some ro/\(aPp s P a bad ends ends2 po ro\/aPq po ro):=by
 have hQ:=(sG hP).2;unfold vM xE;rw[RH hsm hQ,aTC,FG hsm hP,aTC];by_cases h0:kS s P=3/\xS s P=[123]
 ·have hPQ:P<nS s P:=BM (by omega) (by omega);rw[aTD h0,D3 rfl,wK (by rw[(AW (by decide) (by decide)).2 h0.1,h0.2];decide)];obtain⟨po,ro,h1,h2,h3⟩:=aHG (c:=c) (c2:=c2) (a:=a) (en0:=en) (at0:=(nS s P:Int)) (at1:=(P:Int)) (bad:=bad) (bad0:=bad) (e0:=0) (ends:=ends) (ids:=ids) (hd:=hd) (i:=i0 i1) hsm hends2 s.length (nS s P) [] [] [] [] 0 [] [] (by omega) hQ (by decide) (by decide) (by decide);unfold s3 at h1;rw[show vZ []=[] from aVb.1 (a8I []),show rV .str .bool [] tG=false from rfl,show rV .str .bool [] tH=false from rfl,show rV .str .bool [] tW=false from rfl] at h2;dsimp only;rw[h1];rw[h2];unfold rH;rw[aTC];rcases h3 with⟨P',sr,tg,cm,st,fd,l,m,g1,g2,g3,g4,rfl,rfl,g5,g6,g7⟩ |⟨P',sr,tg,cm,st,fd,l,m,r,g1,g2,g3,rfl,rfl,g4,g5,g6⟩ |⟨r,sr,tg,cm,st,fd,l,m,r9,g1,rfl,g2,rfl,g3,g4⟩
  ·have hQ':=sG g2;have hpos:P'<nS s P':=BM (by omega) (by omega);unfold s3 tD;dsimp only;rw[RH hsm hQ'.2,aTD ⟨g3,g4⟩,D3 rfl,aTC,aTD (by omega),aTD (by simp;omega)];exact⟨_,_,rfl,rfl,.inl ⟨nS s P',sr,tg,cm,vZ l,st,fd,by omega,hQ'.2,rfl,rfl,by unfold pS;omega,by unfold pS;rw[a8I];omega,by unfold pS;omega⟩⟩
  ·have hQ':=sG g2;unfold s3 tD;dsimp only;rw[RH hsm hQ'.2,aTG g3,xM (by decide),aTC,aTD (by omega),aTD (by simp;omega)];exact⟨_,_,rfl,rfl,.inr ⟨show (3:Int)≠0 from by decide,g4,g5⟩⟩
  ·unfold s3;dsimp only;rw[WT g1,aTC,aTD (by omega),aTD (by simp;omega)];exact⟨_,_,rfl,rfl,.inr ⟨g1,g3,g4⟩⟩
 ·rw[aTG h0,xM (by decide),zE (by simp only[aTL,aUt,aTK,AW (show (3:Int)≠0 by decide) (show (3:Int)≠4 by decide)];intro hh;rcases hh with⟨u,v|v⟩;exact absurd v (by decide);exact h0 ⟨u,v⟩)]
  dsimp only;have h:=vU (a8H (s:=s) (at0:=(nS s P:Int)) (c:=c) (ends:=ends) (en0:=en) (ids:=ids) (hd:=hd) (sr:=[]) (tg:=[]) (cm:=[]) (st:=0) (fd:=[]) (l:=[]) (m:=[]) (r:=((nS s P:Int),kS s P,xS s P,(fS s P:Int),(nS s P:Int),(fS s P:Int),3,en)) (show (3:Int)≠0 from by decide));unfold s3 at h;dsimp only at h;rw[h,vU (RL (show (3:Int)≠0 from by decide))];unfold rH;rw[aTC];dsimp only;rw[WT (by decide),aTC,aTD (by decide),aTD (by simp;omega)];exact⟨_,_,rfl,rfl,.inr ⟨show (3:Int)≠0 from by decide,rfl,rfl⟩⟩
end
section
variable {s:List UInt8}(hsm:s.length<=4000000000) {P:Nat}(hP:P<=s.length) {c2:C4}{bad e:Int}{i1:List UInt8}{ends2:List Int}{hd:Bool}{i:rD}
include hsm hP
theorem NR (he:e≠0): ∃ro,xE (s,((P:Int),(bad,(e,(c2,(ends2,())))))) i hd=some ro/\ro.2.1=bad/\ro.2.2.1=e:=by
 unfold xE;rw[RK hsm hP he,aTC];dsimp only;rw[vU (RL he)];exact⟨_,rfl,rfl,rfl⟩
end
def RM (es:List rD) (x:List UInt8):Int×Bool:=uA (fun k=>((k:Int),true)) ((0:Int),false) (es.findIdx? fun y=>decide (y.1=x))
theorem a8L (es:List rD) (x:List UInt8):(RM es x).2=es.any fun y=>decide (y.1=x):=by
 rw[<-a8l];unfold RM;cases es.findIdx? fun y=>decide (y.1=x)<;>rfl
theorem WY (c:C4) (x:List UInt8) (hl:c.2.2.2.1.length<=5000):GC c x=some (RM c.2.2.2.1 x):=by
 have h:=BF (f:=PQ c x) (l:=c.2.2.2.1) (fun y=>decide (y.1=x)) (fun k=>((k:Int),true)) (fun i h=>by
  unfold PQ;rw[aTD (sX h),aTD (rR h),xW (t:=rN) h,aTD (sC (by omega))]) (by
  unfold PQ;rw[aTG (uM _)])
 unfold GC;rw[h,FD];rfl
def NS (ids:List (List UInt8×Bool)) (es:List rD):Prop:= ∀x,rV .str .bool ids x=es.any fun y=>decide (y.1=x)
theorem aHJ {ids:List (List UInt8×Bool)}{es:List rD}(h:NS ids es) (e:rD) (x:List UInt8) (he:e.1=x):NS (sL .str .bool x true ids) (es++[e]):=by
 intro y;rw[EF,List.any_append,<-h y];by_cases hy:y=x
 ·rw[aTD hy];simp [he,hy]
 ·rw[aTG hy];have:decide (e.1=y)=false:=by rw[he];simpa using fun hh=>hy hh.symm
  simp [this]
abbrev E11:=Int×Int×List UInt8×Int×Int×Int×Int×List rD×List Int×Int×List (List UInt8×Bool)
abbrev E5:=Int×Int×Int×List rD×List Int
def aPr (s:List UInt8) (P:Nat) (a bad:Int) (ends:List Int) (es:List rD) (po:E11) (ro:E5):Prop:=
 ∃(P':Nat) (y:rD) (ids:List (List UInt8×Bool)),P<P'/\P'<=s.length/\es.length<1000/\NS ids (es++[y])/\
  po=((nS s P':Int),kS s P',xS s P',(fS s P':Int),(nS s P':Int),a,0,es++[y],ends++[(P':Int)],(P':Int),ids)/\
  ro=((P':Int),bad,0,es++[y],ends++[(P':Int)])/\KV y
def aHK (po:E11) (ro:E5):Prop:=po.2.2.2.2.2.2.1≠0/\ro.2.1=po.2.2.2.2.2.1/\ro.2.2.1=po.2.2.2.2.2.2.1
section
variable {s:List UInt8}(hsm:s.length<=4000000000) {P:Nat}(hP:P<=s.length) {a en bad:Int}{t1 t2:List UInt8}{cm1 cm2:List (List UInt8)}{fd1 fd2:List rF}{es:List rD}{ends:List Int}(hends:ends.length<=5000) {ids:List (List UInt8×Bool)}(hids:NS ids es) (hes:es.length<=1000)
include hsm hP hends hids hes
theorem a0g: ∃po ro,y4 (s,((nS s P:Int),())) (kS s P,(xS s P,((fS s P:Int),((nS s P:Int),())))) a 0 (t1,(cm1,(fd1,(es,())))) (ends,(en,())) ids=some po/\
  IJ (s,((P:Int),(bad,(0,((t2,(cm2,(fd2,(es,())))),(ends,()))))))=some ro/\(aPr s P a bad ends es po ro\/aHK po ro):=by
 have hQ:=(sG hP).2;have hR:=(sG hQ).2;unfold y4 IJ;rw[RH hsm hQ,aTC,FG hsm hP,aTC];by_cases h0:kS s P=2/\xS s P=[101,110,116,114,121]
 ·have hPQ:P<nS s P:=BM (by omega) (by omega);rw[aTD h0,D3 rfl,wK (by rw[(AW (by decide) (by decide)).2 h0.1,h0.2];decide)];unfold tD;dsimp only;rw[aOL hsm hR,aTC,CF hsm hQ (by decide) (by decide),aTC,hids (xS s (nS s P))];by_cases hk1:kS s (nS s P)=1
  ·have hQR:nS s P<nS s (nS s P):=BM (by omega) (by omega);rw[wK (by simpa using hk1)];dsimp only;rw[aTG (show¬(!decide ((0:Int)=0))=true from by decide),WY _ _ (show es.length<=5000 by omega),aTC,a8L];dsimp only;by_cases hid:ED (xS s (nS s P))=true
   ·have hid': ¬(decide (xS s (nS s P)=[])||decide ((200:Int)<((xS s (nS s P)).length:Int)))=true:=by
     unfold ED at hid;simp at hid⊢;omega
    have hb: ¬(decide (kS s (nS s P)≠1)|| !ED (xS s (nS s P)))=true:=by simp [hk1,hid]
    rw[aTG hid'];by_cases hdup:(es.any fun y=>decide (y.1=xS s (nS s P)))=true
    ·rw[aTD hdup,NN hb hdup,xM (by decide)];unfold rM;rw[wY];obtain⟨po,hpo,h1,h2⟩:=IS (s:=s) (at0:=(nS s (nS s P):Int)) (c:=(t1,(cm1,(fd1,(es,()))))) (a:=(fS s (nS s P):Int)) (en:=(nS s P:Int)) (k:=kS s (nS s P)) (x:=xS s (nS s P)) (f:=(fS s (nS s P):Int)) (t:=(nS s (nS s P):Int)) (ids:=sL .str .bool (xS s (nS s P)) true ids) (hd:=true) hends (show (9:Int)≠0 by decide);dsimp only;rw[hpo,aTC,aTD (by simp;omega)];exact⟨_,_,rfl,rfl,.inr ⟨by show po.2.2.2.2.2.2.2.2.2.2.2.2.1≠0;rw[h2];decide,h1.symm,h2.symm⟩⟩
    ·rw[aTG hdup];by_cases hm:es.length=1000
     ·rw[aTD (show decide ((1000:Int)<=(es.length:Int))=true from by simp;omega),NO hb hdup (by simp;omega),xM (by decide)];unfold rM;rw[wY];obtain⟨po,hpo,h1,h2⟩:=IS (s:=s) (at0:=(nS s (nS s P):Int)) (c:=(t1,(cm1,(fd1,(es,()))))) (a:=(fS s (nS s P):Int)) (en:=(nS s P:Int)) (k:=kS s (nS s P)) (x:=xS s (nS s P)) (f:=(fS s (nS s P):Int)) (t:=(nS s (nS s P):Int)) (ids:=sL .str .bool (xS s (nS s P)) true ids) (hd:=true) hends (show (6:Int)≠0 by decide);dsimp only;rw[hpo,aTC,aTD (by simp;omega)];exact⟨_,_,rfl,rfl,.inr ⟨by show po.2.2.2.2.2.2.2.2.2.2.2.2.1≠0;rw[h2];decide,h1.symm,h2.symm⟩⟩
     ·rw[aTG (show¬decide ((1000:Int)<=(es.length:Int))=true from by simp;omega),D1 hb hdup (by simp;omega),D3 rfl];unfold tD;dsimp only;obtain⟨po,ro,hpo,hro,h5⟩:=aHI (c:=(t1,(cm1,(fd1,(es,()))))) (c2:=(t2,(cm2,(fd2,(es,()))))) (a:=a) (en:=(nS s (nS s P):Int)) (bad:=bad) (i1:=xS s (nS s P)) (ids:=sL .str .bool (xS s (nS s P)) true ids) (hd:=true) hsm hR hends hends;rw[hpo,aTC,aTD (by simp;omega),show (false)= !true from rfl,hro,aTC,aTD (by simp;omega),aTD (by simp;omega)];refine⟨_,_,rfl,rfl,?_⟩;rcases h5 with⟨P',sr,tg,cm,fg,st,fd,g1,g2,rfl,rfl,f1,f2,f3⟩ |⟨g1,g2,g3⟩
      ·exact .inl ⟨P',_,_,by omega,g2,by omega,aHJ hids _ _ rfl,rfl,rfl,f1,f2,f3⟩
      ·exact .inr ⟨g1,g2,g3⟩
   ·have hid':(decide (xS s (nS s P)=[])||decide ((200:Int)<((xS s (nS s P)).length:Int)))=true:=by
     unfold ED at hid;simp at hid⊢;by_cases hh:xS s (nS s P)=[]<;>simp_all
    rw[aTD hid',zD (by simp [hid]),xM (by decide)];unfold rM;rw[wY];obtain⟨po,hpo,h1,h2⟩:=IS (s:=s) (at0:=(nS s (nS s P):Int)) (c:=(t1,(cm1,(fd1,(es,()))))) (a:=(fS s (nS s P):Int)) (en:=(nS s P:Int)) (k:=kS s (nS s P)) (x:=xS s (nS s P)) (f:=(fS s (nS s P):Int)) (t:=(nS s (nS s P):Int)) (ids:=sL .str .bool (xS s (nS s P)) true ids) (hd:=true) hends (show (3:Int)≠0 by decide);dsimp only;rw[hpo,aTC,aTD (by simp;omega)];exact⟨_,_,rfl,rfl,.inr ⟨by show po.2.2.2.2.2.2.2.2.2.2.2.2.1≠0;rw[h2];decide,h1.symm,h2.symm⟩⟩
  ·rw[zE (by simpa using hk1),zD (by simp [hk1]),xM (by decide)];dsimp only;rw[aTD (show (!decide ((3:Int)=0))=true from by decide)];obtain⟨po,hpo,h1,h2⟩:=IS (s:=s) (at0:=(nS s (nS s P):Int)) (c:=(t1,(cm1,(fd1,(es,()))))) (a:=(fS s (nS s P):Int)) (en:=(nS s P:Int)) (k:=kS s (nS s P)) (x:=xS s (nS s P)) (f:=(fS s (nS s P):Int)) (t:=(nS s (nS s P):Int)) (ids:=sL .str .bool (xS s (nS s P)) true ids) (hd:=true) hends (show (3:Int)≠0 by decide);rw[hpo,aTC,aTD (by simp;omega)];exact⟨_,_,rfl,rfl,.inr ⟨by show po.2.2.2.2.2.2.2.2.2.2.2.2.1≠0;rw[h2];decide,h1.symm,h2.symm⟩⟩
 ·rw[aTG h0,xM (by decide),zE (by simp only[aTL,aUt,aTK,AW (show (2:Int)≠0 by decide) (show (2:Int)≠4 by decide)];intro hh;rcases hh with⟨u,v|v⟩;exact absurd v (by decide);exact h0 ⟨u,v⟩)]
  dsimp only;rw[aOM (by decide),aTC,RK hsm hP (by decide),aTC];dsimp only;rw[aTD (show (!decide ((3:Int)=0))=true from by decide)];obtain⟨po,hpo,h1,h2⟩:=IS (s:=s) (at0:=(nS s P:Int)) (c:=(t1,(cm1,(fd1,(es,()))))) (a:=(fS s P:Int)) (en:=en) (k:=kS s P) (x:=xS s P) (f:=(fS s P:Int)) (t:=(nS s P:Int)) (ids:=sL .str .bool (xS s P) true ids) (hd:=true) hends (show (3:Int)≠0 by decide);rw[hpo,aTC,aTD (by simp;omega)];exact⟨_,_,rfl,rfl,.inr ⟨by show po.2.2.2.2.2.2.2.2.2.2.2.2.1≠0;rw[h2];decide,h1.symm,h2.symm⟩⟩
end
abbrev eD:tC:=([],([],([],([],([],(0,([],())))))))
def EG (es:List tC) (i:Nat):Bool:=((es.take i).any fun y=>decide (y.1=(es.getD i eD).1))|| !xH (es.getD i eD)
def v6 (c:C4):Bool:=((tY c.1&&vR c.2.1)&&vS c.2.2.1)&&(decide ((c.2.2.2.1.length:Int)<=1000)&& !((List.range c.2.2.2.1.length).any (EG c.2.2.2.1)))
theorem a8N {l:List tC}{i:Nat}:pU rN l (i:Int)=l.getD i eD:=by unfold pU;rw[aUv];rfl
structure RN (c:C4):Prop where
 tag:pS c.1
 com:pS c.2.1/\∀y∈c.2.1,pS y
 fld:pS c.2.2.1/\∀y∈c.2.2.1,R3 y
 len:c.2.2.2.1.length<=5000
 ent: ∀x∈c.2.2.2.1,WA x
theorem aPs {α:Type}{l:List α}{i:Nat}{d:α}(h:i<l.length):l.take (i+1)=l.take i++[l.getD i d]:=by
 rw[List.take_add_one,aTM h,aT6,aTM h];rfl
theorem aHL {c:C4}(hc:RN c): ∀(n i:Nat) (m:List (List UInt8×Bool)),i+n=c.2.2.2.1.length->NS m (c.2.2.2.1.take i)->
  qB (KH c) ((i:Int),m)=some (if (List.range' i n).any (EG c.2.2.2.1)=true then .inr false else .inl ())
 |0,i,m,hi,_=>by
  have:i=c.2.2.2.1.length:=by omega
  subst this;refine vA ?_;unfold KH;dsimp only;rw[aTG (uM _)];rfl
 |n+1,i,m,hi,hm=>by
  have h:i<c.2.2.2.1.length:=by omega
  have he:=hc.ent _ (KO (d:=eD) h);have hl:=hc.len;have hst:KH c ((i:Int),m)=if EG c.2.2.2.1 i=true then some (.inr (.inr false)) else some (.inl (((i+1:Nat):Int),sL .str .bool (c.2.2.2.1.getD i eD).1 true m)):=by
   unfold KH;dsimp only;rw[aTD (sX h),aTD (rR h),a8N,hm,aN2 _ he,aTD wB,aTD (sC (by omega))];rfl
  rw[aVl,List.any_cons];by_cases hb:EG c.2.2.2.1 i=true
  ·rw[aTD hb] at hst;rw[hb,Bool.true_or,aTD rfl];exact vA hst
  ·rw[aTG hb] at hst;rw[EU hst,aHL hc n (i+1) _ (by omega) (by rw[aPs (d:=eD) h];exact aHJ hm _ _ rfl)];simp only[aUG] at hb;rw[hb,Bool.false_or]
theorem aPt {c:C4}(hc:RN c):KI c=some (v6 c):=by
 obtain⟨t1,t2⟩:=aGX _ hc.com.1 hc.com.2;have e2:=aG0 _ hc.fld.1 hc.fld.2;have hlp:=aHL hc c.2.2.2.1.length 0 [] (by omega) (fun x=>by rfl);rw[<-List.range_eq_range'] at hlp;have hlp':qB (KH c) ((0:Int),[])=_:=hlp;have a1:decide ((1000:Int)<(c.2.2.2.1.length:Int))= !decide ((c.2.2.2.1.length:Int)<=1000):=by rw[<-decide_not];exact aVk.2 (by omega)
 unfold KI;rw[a8k,aTC,t1,t2,e2,aTD wB,aTD wB,hlp',a1];unfold v6;show (if (((!tY c.1)||(!vR c.2.1))||(!vS c.2.2.1)||_)=true then some false else _)=_
 generalize tY c.1=b1;generalize vR c.2.1=b2;generalize vS c.2.2.1=b3;generalize decide ((c.2.2.2.1.length:Int)<=1000)=b4;generalize (List.range c.2.2.2.1.length).any (EG c.2.2.2.1)=b5;cases b1<;>cases b2<;>cases b3<;>cases b4<;>cases b5<;>rfl
theorem aPu {es:List tC}{i:Nat}(h:i<es.length):decide ((RM es (es.getD i eD).1).1=(i:Int))= !((es.take i).any fun y=>decide (y.1=(es.getD i eD).1)):=by
 have hx:es.getD i eD=es[i]:=by rw[aT6,aTM h];rfl
 unfold RM;cases hf:es.findIdx? fun y=>decide (y.1=(es.getD i eD).1) with
 |none=>
  have:=aUN.1 hf es[i] (aUB h);rw[hx] at this;simp at this
 |some k=>
  obtain⟨hk,h1,h2⟩:=aUf.1 hf;simp only[aTK,aUh] at h1 h2;show decide ((k:Int)=(i:Int))=_;rw[aUH,aTK,aT8,aUp];have hki:k<=i:=by
   rcases aUX i k with hlt|hge
   ·exact absurd (aUi Prod.fst hx.symm) (h2 i hlt)
   ·exact hge
  constructor
  ·intro he x hxm;obtain⟨j,hj,rfl⟩:=aVe hxm;rw[aT5] at hj;rw[List.getElem_take];have:=h2 j (by omega);simpa using this
  ·intro hall;rcases aUX k i with hlt|hge
   ·have:=hall es[k] (by rw[aVw];exact⟨k,by omega,rfl⟩);simp [h1] at this
   ·omega
theorem aPv (c:C4) (hc:RN c):KG c=some ((tY c.1&&vR c.2.1)&&vS c.2.2.1):=by
 unfold KG;rw[N9 _ hc.tag,aTC,aGW _ hc.com.1 hc.com.2,aG1 _ hc.fld.1 hc.fld.2,aTD wB,aTD wB];rfl
theorem aHM {c:C4}(hc:RN c):FB c=some (v6 c):=by
 have hl:=hc.len;have h:=QZ (f:=QS c) (n:=c.2.2.2.1.length) (EG c.2.2.2.1) (fun _=>false) (fun i h=>by
  have he:=hc.ent _ (KO (d:=eD) h);obtain⟨u,v⟩:=aN3 _ he;unfold QS;rw[aTD (sX h),aTD (rR h),a8N,WY c _ hl,aTC,aTD (fun _=>rR h),u,aTD wB,v,aPu h,aTD (sC (by omega)),Bool.not_not];rfl) (by
  unfold QS;rw[aTG (uM _)])
 have a1:decide ((1000:Int)<(c.2.2.2.1.length:Int))= !decide ((c.2.2.2.1.length:Int)<=1000):=by rw[<-decide_not];exact aVk.2 (by omega)
 unfold FB;rw[aPv c hc,aTC,h,R0,a1];unfold v6;generalize ((tY c.1&&vR c.2.1)&&vS c.2.2.1)=b1;generalize decide ((c.2.2.2.1.length:Int)<=1000)=b2;generalize (List.range c.2.2.2.1.length).any (EG c.2.2.2.1)=b3;cases b1<;>cases b2<;>cases b3<;>rfl
def tZ:Nat:=140737488351232
theorem aHN {l:List (List UInt8)}(hl:l.length<=tZ) (hx: ∀x∈l,x.length<=tZ): ∀(m i:Nat) (n:Int),i+m=l.length->0<=n->n<=1125899906842624->
  ∃r,qB (HY l) (n,(i:Int))=some r/\n<=r/\r<=1125899906842624/\(r<1099511627776->∀x∈l.drop i,n+(x.length:Int)<=r)
 |0,i,n,hi,h0,h1=>by
  have:i=l.length:=by omega
  subst this;refine⟨n,vA ?_,aUq _,h1,fun _ x hx=>by rw[aUk] at hx;cases hx⟩;unfold HY;dsimp only;rw[aTG (by simp)]
 |m+1,i,n,hi,h0,h1=>by
  have h:i<l.length:=by omega
  by_cases hn:n<1099511627776
  ·have hxi:=hx _ (aUB h);unfold tZ at hxi hl;have hst:HY l (n,(i:Int))=some (.inl (n+(l[i].length:Int),((i+1:Nat):Int))):=by
    unfold HY;dsimp only;rw[aTD (by simp [h,hn]),aTD (rR h),xW (t:= .str) h,aTD (by unfold pE;omega),aTD (by unfold pE;omega)];rfl
   obtain⟨r,e,e1,e2,e3⟩:=aHN (by unfold tZ;exact hl) hx m (i+1) (n+(l[i].length:Int)) (by omega) (by omega) (by omega);refine⟨r,by rw[EU hst,e],by omega,e2,fun hr x hxm=> ?_⟩;rw[aT2 h] at hxm;rcases aTW.1 hxm with rfl|hxm
   ·omega
   ·have:=e3 hr x hxm;omega
  ·refine⟨n,vA ?_,aUq _,h1,fun hr=>by omega⟩;unfold HY;dsimp only;rw[aTG (by simp [hn])]
theorem aHO {l:List rF}(hl:l.length<=tZ) (hx: ∀x∈l,x.1.length<=tZ/\x.2.1.length<=tZ): ∀(m i:Nat) (n:Int),i+m=l.length->0<=n->n<=1125899906842624->
  ∃r,qB (HZ l) (n,(i:Int))=some r/\n<=r/\r<=1125899906842624/\(r<1099511627776->∀x∈l.drop i,n+(x.1.length:Int)+(x.2.1.length:Int)<=r)
 |0,i,n,hi,h0,h1=>by
  have:i=l.length:=by omega
  subst this;refine⟨n,vA ?_,aUq _,h1,fun _ x hx=>by rw[aUk] at hx;cases hx⟩;unfold HZ;dsimp only;rw[aTG (by simp)]
 |m+1,i,n,hi,h0,h1=>by
  have h:i<l.length:=by omega
  by_cases hn:n<1099511627776
  ·have hxi:=hx _ (aUB h);unfold tZ at hxi hl;have hst:HZ l (n,(i:Int))=some (.inl (n+(l[i].1.length:Int)+(l[i].2.1.length:Int),((i+1:Nat):Int))):=by
    unfold HZ;dsimp only;rw[aTD (by simp [h,hn]),aTD (rR h),xW (t:= .pair .str (.pair .str .unit)) h,aTD (by unfold pE;omega),aTD (rR h),aTD (by unfold pE;omega),aTD (by unfold pE;omega)];rfl
   obtain⟨r,e,e1,e2,e3⟩:=aHO (by unfold tZ;exact hl) hx m (i+1) (n+(l[i].1.length:Int)+(l[i].2.1.length:Int)) (by omega) (by omega) (by omega);refine⟨r,by rw[EU hst,e],by omega,e2,fun hr x hxm=> ?_⟩;rw[aT2 h] at hxm;rcases aTW.1 hxm with rfl|hxm
   ·omega
   ·have:=e3 hr x hxm;omega
  ·refine⟨n,vA ?_,aUq _,h1,fun hr=>by omega⟩;unfold HZ;dsimp only;rw[aTG (by simp [hn])]
def FJ (l:List (List UInt8)):Prop:=l.length<=6000/\∀x∈l,x.length<=6000
def IT (l:List rF):Prop:=l.length<=6000/\∀x∈l,x.1.length<=6000/\x.2.1.length<=6000
theorem a8O {l:List (List UInt8)}{f:List rF}(hl:l.length<=tZ) (hx: ∀x∈l,x.length<=tZ) (hf:f.length<=tZ) (hy: ∀x∈f,x.1.length<=tZ/\x.2.1.length<=tZ):
  ∃r,yE l f=some r/\0<=r/\r<=1125899906842624/\(r<=6000->FJ l/\IT f):=by
 have hl':=hl;have hf':=hf;unfold tZ at hl' hf';obtain⟨r,e,e1,e2,e3⟩:=aHN hl hx l.length 0 ((l.length:Int)+(f.length:Int)) (by omega) (by omega) (by omega);obtain⟨r',k,k1,k2,k3⟩:=aHO hf hy f.length 0 r (by omega) (by omega) e2;have e':qB (HY l) ((l.length:Int)+(f.length:Int),(0:Int))=some r:=e;have k':qB (HZ f) (r,(0:Int))=some r':=k;refine⟨r',?_,by omega,k2,fun hr=>⟨⟨by omega,fun x hxm=> ?_⟩,⟨by omega,fun x hxm=> ?_⟩⟩⟩
 ·unfold yE;rw[aTD (by unfold pE;omega),e'];unfold rH;rw[aTC,k',aTC]
 ·have:=e3 (by omega) x (by rw[aUO];exact hxm);omega
 ·have:=k3 (by omega) x (by rw[aUO];exact hxm);omega
structure a8P (x:tC):Prop where
 id:x.1.length<=tZ
 src:x.2.1.length<=tZ
 tgt:x.2.2.1.length<=tZ
 com:x.2.2.2.1.length<=tZ/\∀y∈x.2.2.2.1,y.length<=tZ
 flg:x.2.2.2.2.1.length<=tZ/\∀y∈x.2.2.2.2.1,y.length<=tZ
 fld:x.2.2.2.2.2.2.1.length<=tZ/\∀y∈x.2.2.2.2.2.2.1,y.1.length<=tZ/\y.2.1.length<=tZ
structure IU (x:tC):Prop where
 id:x.1.length<=6000
 src:x.2.1.length<=6000
 tgt:x.2.2.1.length<=6000
 com:FJ x.2.2.2.1
 flg:FJ x.2.2.2.2.1
 fld:IT x.2.2.2.2.2.2.1
theorem aPw (x:tC) (h:a8P x): ∃b:Bool,MP x=some ()/\
  ((decide ((((x.1.length:Int)+(x.2.1.length:Int))+(x.2.2.1.length:Int))<=(6000:Int)))&&(decide (((val (yE x.2.2.2.1 x.2.2.2.2.2.2.1))+(val (yE x.2.2.2.2.1 ([]:List pV))))<=(6000:Int))))=b/\(b=true->IU x):=by
 obtain⟨r,e,e1,e2,e3⟩:=a8O h.com.1 h.com.2 h.fld.1 h.fld.2;obtain⟨r',k,k1,k2,k3⟩:=a8O (f:=[]) h.flg.1 h.flg.2 (by unfold tZ;simp) (fun x hx=>by cases hx);have a1:=h.id;have a2:=h.src;have a3:=h.tgt;unfold tZ at a1 a2 a3;refine⟨_,?_,rfl,fun hb=> ?_⟩
 ·unfold MP;rw[e,k,aTD (by unfold pE;omega),aTD (by unfold pE;omega),aTD wB,aTD wB,aTD (fun _=>by show pE (r+r');unfold pE;omega)]
 ·rw[e,k] at hb;simp only[aTL,aTK] at hb;obtain⟨h1,h2⟩:=hb;have h2:r+r'<=6000:=h2;obtain⟨p,q⟩:=e3 (by omega);obtain⟨p',_⟩:=k3 (by omega);exact⟨by omega,by omega,by omega,p,p',q⟩
structure WZ (c:C4):Prop where
 tag:c.1.length<=tZ
 com:c.2.1.length<=tZ/\∀y∈c.2.1,y.length<=tZ
 fld:c.2.2.1.length<=tZ/\∀y∈c.2.2.1,y.1.length<=tZ/\y.2.1.length<=tZ
 ent: ∀x∈c.2.2.2.1,a8P x
structure H5 (c:C4):Prop where
 tag:c.1.length<=100
 com:FJ c.2.1
 fld:IT c.2.2.1
 len:c.2.2.2.1.length<=1000
 ent: ∀x∈c.2.2.2.1,IU x
theorem aHP {c:C4}(hc:WZ c) (hl:c.2.2.2.1.length<=12): ∀(n i:Nat),i+n=c.2.2.2.1.length->
  ∃r,qB (KC c) (i:Int)=some r/\(r= .inr false\/(r= .inl ()/\∀x∈c.2.2.2.1.drop i,IU x))
 |0,i,hi=>by
  have:i=c.2.2.2.1.length:=by omega
  subst this;refine⟨.inl (),vA ?_,.inr ⟨rfl,fun x hx=>by rw[aUk] at hx;cases hx⟩⟩;unfold KC;rw[aTG (uM _)]
 |n+1,i,hi=>by
  have h:i<c.2.2.2.1.length:=by omega
  obtain⟨b,e1,e2,e3⟩:=aPw _ (hc.ent _ (aUB h));have hst:KC c (i:Int)=if (!b)=true then some (.inr (.inr false)) else some (.inl ((i+1:Nat):Int)):=by
   unfold KC;rw[aTD (sX h),aTD (rR h),xW (t:=rN) h,e1,aTC,e2,aTD (sC (by omega))];rfl
  cases b with
  |false=>exact⟨_,vA hst,.inl rfl⟩
  |true=>
   obtain⟨r,k,k2⟩:=aHP hc hl n (i+1) (by omega);refine⟨r,by rw[EU hst,k],k2.imp id fun⟨a,b⟩=>⟨a,fun x hx=> ?_⟩⟩;rw[aT2 h] at hx;rcases aTW.1 hx with rfl|hx
   ·exact e3 rfl
   ·exact b x hx
theorem aPx {c:C4}(hc:WZ c): ∃b,KD c=some b/\(b=true->H5 c):=by
 obtain⟨r,e,e1,e2,e3⟩:=a8O hc.com.1 hc.com.2 hc.fld.1 hc.fld.2;unfold KD;rw[e,aTD wB];by_cases hb:(((decide ((100:Int)<(c.1.length:Int)))||(decide ((6000:Int)<(val (some r)))))||(decide ((12:Int)<(c.2.2.2.1.length:Int))))=true
 ·rw[aTD hb];exact⟨false,rfl,fun h=>by cases h⟩
 ·rw[aTG hb];simp only[aUt,aTK] at hb;have hr: ¬(6000:Int)<r:=fun h=>hb (.inl (.inr h));obtain⟨p,q⟩:=e3 (by omega);obtain⟨r',k,k2⟩:=aHP hc (by omega) c.2.2.2.1.length 0 (by omega);have k':qB (KC c) (0:Int)=some r':=k;rw[k'];rcases k2 with rfl|⟨rfl,k3⟩
  ·exact⟨false,rfl,fun h=>by cases h⟩
  ·exact⟨true,rfl,fun _=>⟨by omega,p,q,by omega,by rw[aUO] at k3;exact k3⟩⟩
theorem IV {l:List UInt8}(h:l.length<=6000):pS l:=by unfold pS;omega
theorem a8Q {l:List (List UInt8)}(h:FJ l):pS l/\∀y∈l,pS y:=⟨by have:=h.1;unfold pS;omega,fun y hy=>IV (h.2 y hy)⟩
theorem aHQ {l:List rF}(h:IT l):pS l/\∀y∈l,R3 y:=⟨by have:=h.1;unfold pS;omega,fun y hy=>⟨IV (h.2 y hy).1,IV (h.2 y hy).2⟩⟩
theorem IU.fitP {x:tC}(h:IU x):WA x:=⟨IV h.id,IV h.src,IV h.tgt,a8Q h.com,a8Q h.flg,aHQ h.fld⟩
theorem H5.fitP {c:C4}(h:H5 c):RN c:=⟨IV (by have:=h.tag;omega),a8Q h.com,aHQ h.fld,by have:=h.len;omega,fun x hx=>(h.ent x hx).fitP⟩
theorem aHR {σ ρ α:Type}{f:σ->Option (σ⊕ρ)}(st:Int->List α->σ) (out:List α->ρ) {n M B:Nat}(g:Nat->List α) (hg: ∀i,i<n->(g i).length<=B)
  (hf: ∀(i:Nat) s,i<n->s.length+B<=M->f (st i s)=some (.inl (st ((i:Int)+1) (s++g i)))) (he: ∀s,f (st n s)=some (.inr (out s))):
  ∀(k i:Nat) (s:List α),i+k=n->s.length+k*B<=M->qB f (st i s)=some (out (s++(List.range' i k).flatMap g))
 |0,i,s,hi,_=>by
  have:i=n:=by omega
  subst this;rw[vA (he s)];simp
 |k+1,i,s,hi,hM=>by
  rw[aUJ] at hM;have hgi:=hg i (by omega);rw[EU (hf i s (by omega) (by omega)),show ((i:Int)+1)=((i+1:Nat):Int) by omega,aHR st out g hg hf he k (i+1) (s++g i) (by omega) (by rw[aTH];omega),aVl,aUZ,aTN]
theorem aHS {α:Type}{g:Nat->List α}{B:Nat}: ∀(k i:Nat),(∀j,i<=j->j<i+k->(g j).length<=B)->((List.range' i k).flatMap g).length<=k*B
 |0,i,_=>by simp
 |k+1,i,h=>by
  rw[aVl,aUZ,aTH,aUJ];have h1:=aHS k (i+1) fun j h1 h2=>h j (by omega) (by omega);have h2:=h i (by omega) (by omega);omega
theorem RO {σ ρ α:Type}{f:σ->Option (σ⊕ρ)}(st:Int->List α->σ) (out:List α->ρ) {n M B:Nat}(g:Nat->List α) (hg: ∀i,i<n->(g i).length<=B) (s:List α) (hM:s.length+n*B<=M)
  (hf: ∀(i:Nat) s,i<n->s.length+B<=M->f (st i s)=some (.inl (st ((i:Int)+1) (s++g i)))) (he: ∀s,f (st n s)=some (.inr (out s))):
  qB f (st 0 s)=some (out (s++(List.range' 0 n).flatMap g)):=aHR st out g hg hf he n 0 s (by omega) hM
theorem X0 {α β:Type}{l:List α}{d:α}(h:α->List β):(List.range' 0 l.length).flatMap (fun i=>h (l.getD i d))=l.flatMap h:=by
 have e:(List.range' 0 l.length).map (fun i=>l.getD i d)=l:=by
  apply List.ext_getElem
  ·simp
  ·intro i h1 h2;simp [aT6,h2]
 conv=>rhs;rw[<-e]
 rw[List.flatMap_map]
theorem IW {α β:Type}{l:List α}{h:α->List β}{B:Nat}(hb: ∀x∈l,(h x).length<=B):(l.flatMap h).length<=l.length*B:=by
 induction l with
 |nil=>simp
 |cons x l ih=>
  rw[aUZ,aTH,aTJ,aUJ];have h1:=hb x aT1;have h2:=ih fun y hy=>hb y (aTS _ hy);omega
def uT (n b:Nat) (first:Bool):List UInt8:=(GM (n:Int) (b:Int) first).getD []
theorem aPy:((List.range 256).all fun b=>[true,false].all fun f=>decide (GM 3 (b:Int) f=some (uT 3 b f))&&(decide (VE 3 (b:Int) f=some (uT 3 b f))&&decide ((uT 3 b f).length<=6)))=true:=by kernel_rfl
theorem aPz:((List.range 256).all fun b=>[true,false].all fun f=>decide (GM 1 (b:Int) f=some (uT 1 b f))&&(decide (VE 1 (b:Int) f=some (uT 1 b f))&&decide ((uT 1 b f).length<=6)))=true:=by kernel_rfl
theorem aHT {n b:Nat}(hn:n=1\/n=3) (hb:b<256) (f:Bool):GM (n:Int) (b:Int) f=some (uT n b f)/\VE (n:Int) (b:Int) f=some (uT n b f)/\(uT n b f).length<=6:=by
 have hf:f∈[true,false]:=by cases f<;>simp
 rcases hn with rfl|rfl
 ·have h:=aUy.1 (aUy.1 aPz b (by simpa using hb)) f hf;simpa using h
 ·have h:=aUy.1 (aUy.1 aPy b (by simpa using hb)) f hf;simpa using h
def KW (n:Nat) (s:List UInt8) (i:Nat):List UInt8:=uT n (s.getD i 0).toNat (decide (i=0))
def AD (n:Nat) (s:List UInt8):List UInt8:=(List.range' 0 s.length).flatMap (KW n s)
theorem aHU {n:Nat}(hn:n=1\/n=3) (s:List UInt8) (i:Nat):(KW n s i).length<=6:=(aHT hn (UInt8.toNat_lt _) _).2.2
theorem aHV {n:Nat}(hn:n=1\/n=3) (s:List UInt8):(AD n s).length<=6*s.length:=by
 have:=aHS (g:=KW n s) (B:=6) s.length 0 fun j _ _=>aHU hn s j;unfold AD;omega
theorem aPA {s:List UInt8}{i:Nat}:pR s (i:Int)=((s.getD i 0).toNat:Int):=by unfold pR;rw[aUv]
theorem aPB {i:Nat}:decide ((i:Int)=0)=decide (i=0):=aVk.2 (by omega)
theorem aPC {l:List Nat}{g:Nat->List UInt8}:l.flatMap (fun i=>sJ (g i))=sJ (l.flatMap g):=by
 induction l with
 |nil=>rfl
 |cons x l ih=>rw[aUZ,aUZ,WI,ih]
theorem aHW (l:List UInt8):(sJ l).length=l.length:=by simp [sJ]
theorem aPD {n:Nat}(hn:n=1\/n=3) {s:List UInt8}(hs:pS s):IB (n:Int) s=some (AD n s):=by
 unfold pS at hs;have hn4: ¬decide ((n:Int)=4)=true:=by simp;omega
 have h:=RO (f:=QD (n:Int) s) (fun i b=>(i,b)) (fun b=>b) (n:=s.length) (M:=10000000000000) (B:=6) (fun i=>sJ (KW n s i)) (fun i _=>by rw[aHW];exact aHU hn s i) [] (by simp;omega) (fun i b hi hM=>by
  obtain⟨e1,_,e3⟩:=aHT hn (UInt8.toNat_lt (s.getD i 0)) (decide (i=0));unfold QD;dsimp only;rw[aTD (sX hi),aTG hn4,aTD (rR hi),aPA,aPB,e1,aTC];unfold CV;rw[aTD (by dsimp only;omega),aTC,aTD (sC (by omega))];rfl) (fun b=>by
  unfold QD;dsimp only;rw[aTG (uM _)])
 unfold IB;rw[aTG (by simp;omega),h,aPC];unfold rH;rw[aTC,List.nil_append,WJ];rfl
def IX (h:List UInt8) (l:List (List UInt8)) (t:List UInt8):List UInt8:=h++(l.flatten++t)
theorem aHX {f:(Int×List UInt8)->List Int->Option (List Int⊕List UInt8)}(hf: ∀it b,b.length+it.2.length<=140737488355328->f it b=some (.inl (b++sJ it.2))): ∀(l:List (Int×List UInt8)) (b:List Int),
  b.length+((l.map (·.2)).flatten).length<=140737488355328->DL f l b=some (.inl (b++sJ (l.map (·.2)).flatten))
 |[],b,_=>by simp [DL,sJ]
 |it::l,b,h=>by
  simp only[aUS,aVP,aTH] at h;unfold DL;rw[hf it b (by omega),aTC];show DL f l _=_;rw[aHX hf l _ (by rw[aTH,aHW];omega)];simp only[aUS,aVP,WI,aTN]
theorem aHY (d:HS):((C2 d).map (·.2)).flatten=IX d.1 d.2.1 d.2.2.1:=by
 unfold C2 IX;have e:(List.range d.2.1.length).map (fun j=>d.2.1.getD j [])=d.2.1:=by
  apply List.ext_getElem
  ·simp
  ·intro i h1 h2;simp [aT6,h2]
 have e2:(((List.range d.2.1.length).map fun j:Nat=>((j:Int)+1,d.2.1.getD j [])).map (·.2))=d.2.1:=by
  rw[List.map_map];exact e
 simp only[aUS,List.map_append,List.map_nil,aVP,List.flatten_append,List.flatten_nil,List.append_nil,e2,aTN]
theorem aHZ (d:HS) (hl:d.2.1.length<=900000) (hb:(IX d.1 d.2.1 d.2.2.1).length<=140737488355328):K4 d=some (IX d.1 d.2.1 d.2.2.1):=by
 have h:=aHX (f:=VB) (fun it b h=>by
  unfold VB CV;rw[aTD h,aTC]) (C2 d) [] (by rw[aHY];simpa using hb)
 unfold K4;rw[aTD (by omega),h,aHY];unfold rW;dsimp only;rw[aTC];simp only[List.nil_append,WJ]
def D4 (n:Nat):Bool->List UInt8->List UInt8
 |_,[]=>[]
 |f,b::t=>uT n b.toNat f++D4 n false t
theorem aH0 (n:Nat): ∀(s:List UInt8) (p:List UInt8),p≠[]->(List.range' p.length s.length).flatMap (KW n (p++s))=D4 n false s
 |[],p,_=>by simp [D4]
 |b::t,p,hp=>by
  have hl:0<p.length:=aVC.2 hp;rw[aTJ,aVl,aUZ];have h1:KW n (p++b::t) p.length=uT n b.toNat false:=by
   unfold KW;rw[show decide (p.length=0)=false by simp;exact hp];congr 2;rw[aT6,aTP (aTZ _),aVE];rfl
  have h2:=aH0 n t (p++[b]) (by simp);rw[aTH,aUl,aTN,aUx] at h2;rw[h1,h2];rfl
theorem aH1 (n:Nat) (s:List UInt8):AD n s=D4 n true s:=by
 cases s with
 |nil=>rfl
 |cons b t=>
  unfold AD;rw[aTJ,aVl,aUZ];have h2:=aH0 n t [b] (by simp);rw[aUl,aUx] at h2;rw[aUg,h2];rfl
theorem aPE {e:List UInt8}(t:List UInt8) (h:(wX e).2=e.length) (h0:e≠[]):wX (e++t)=wX e:=by
 match e,h,h0 with
 |[a],h,_=>simp [wX] at h
 |a::c::u,h,_=>
  show wX (a::c::(u++t))=wX (a::c::u);simp only[wX] at h⊢;split
  ·rfl
  ·rename_i h1;rw[aTG h1] at h;split
   ·rfl
   ·rename_i h2;rw[aTG h2] at h;split
    ·rfl
    ·rename_i h3;rw[aTG h3] at h;split
     ·rfl
     ·rename_i h4;rw[aTG h4] at h;by_cases hx:c=120/\2<=u.length
      ·rw[aTD hx,aTD ⟨hx.1,by rw[aTH];omega⟩,aU9 hx.2]
      ·rw[aTG hx] at h⊢;by_cases hu:c=117/\4<=u.length
       ·have: ¬(c=120/\2<=(u++t).length):=fun hh=>by
         have:=hu.1.symm.trans hh.1;exact absurd this (by decide)
        rw[aTG this,aTD hu,aTD ⟨hu.1,by rw[aTH];omega⟩,aU9 hu.2]
       ·rw[aTG hu] at h;simp at h
theorem aPF {n:Int}{e:List UInt8}(t:List UInt8) (h:(sN n e).2=e.length) (h0:e≠[]):sN n (e++t)=sN n e:=by
 match e,h,h0 with
 |b::u,h,_=>
  show sN n (b::(u++t))=_;by_cases hb:b=92
  ·rw[NE hb] at h⊢;rw[NE hb];exact aPE (e:=b::u) t h (by simp)
  ·by_cases hk:AC n b=true
   ·rw[KQ hb hk,KQ hb hk]
   ·rw[NF hb hk,NF hb hk]
theorem aPG:((List.range 256).all fun b=>[true,false].all fun f=>decide (sN 3 (uT 3 b f)=([b.toUInt8],(uT 3 b f).length))&&(decide (uT 3 b f≠[])&&decide (sH 34 (uT 3 b f++[34])=some (uT 3 b f).length)))=true:=by kernel_rfl
theorem aPH:((List.range 256).all fun b=>[true,false].all fun f=>decide (sN 1 (uT 1 b f)=([b.toUInt8],(uT 1 b f).length))&&(decide (uT 1 b f≠[])&&decide (sH 61 (uT 1 b f++[61])=some (uT 1 b f).length)))=true:=by kernel_rfl
def NT (n:Nat):UInt8:=if n=1 then 61 else 34
theorem aH2 {n:Nat}(hn:n=1\/n=3) (b:UInt8) (f:Bool):sN (n:Int) (uT n b.toNat f)=([b],(uT n b.toNat f).length)/\uT n b.toNat f≠[]/\sH (NT n) (uT n b.toNat f++[NT n])=some (uT n b.toNat f).length:=by
 have hf:f∈[true,false]:=by cases f<;>simp
 have hb:b.toNat<256:=UInt8.toNat_lt b;have hbb:b.toNat.toUInt8=b:=by simp
 rcases hn with rfl|rfl
 ·have h:=aUy.1 (aUy.1 aPH b.toNat (by simpa using hb)) f hf;simp only[aTL,aTK,hbb] at h;exact⟨h.1,h.2.1,h.2.2⟩
 ·have h:=aUy.1 (aUy.1 aPG b.toNat (by simpa using hb)) f hf;simp only[aTL,aTK,hbb] at h;exact⟨h.1,h.2.1,h.2.2⟩
theorem aH3 {n:Nat}(hn:n=1\/n=3): ∀(s:List UInt8) (f:Bool) (k:Nat),(D4 n f s).length<=k->wJ (n:Int) k (D4 n f s)= .inl s
 |[],f,k,_=>by
  cases k<;>rfl
 |b::t,f,k,hk=>by
  obtain⟨h1,h2,_⟩:=aH2 hn b f;unfold D4 at hk⊢;obtain⟨e,he⟩: ∃e,uT n b.toNat f=e:=⟨_,rfl⟩;rw[he] at h1 h2 hk⊢;have hp:=aPF (D4 n false t) (by rw[h1]) h2;rw[h1] at hp;rw[aTH] at hk;have hl:0<e.length:=aVC.2 h2;obtain⟨k',rfl⟩: ∃k',k=k'+1:=⟨k-1,by omega⟩;obtain⟨a,u,rfl⟩: ∃a u,e=a::u:=by
   cases e with
   |nil=>exact absurd rfl h2
   |cons a u=>exact⟨a,u,rfl⟩
  rw[List.cons_append] at hp⊢;unfold wJ;rw[hp,aTG (by simp)];dsimp only;rw[<-List.cons_append,aVn,aH3 hn t false k' (by omega)];rfl
theorem aPI {n:Nat}(hn:n=1\/n=3) (s:List UInt8):yO (n:Int) (AD n s)=(s,0,0):=by
 unfold yO;rw[aH1,aH3 hn s true _ (aTZ _)]
theorem a8R {d:UInt8}: ∀(m:Nat) (e t:List UInt8),e.length<=m->sH d (e++[d])=some e.length->sH d (e++t)=(sH d t).map (· +e.length)
 |_,[],t,_,_=>by simp
 |0,_::_,_,h,_=>by simp at h
 |m+1,b::u,t,hm,h=>by
  rw[List.cons_append] at h⊢;rw[aTJ] at hm;by_cases hb:b=d
  ·rw[WC hb] at h;simp at h
  ·by_cases h9:b=92
   ·rw[WD hb h9] at h;rw[WD hb h9];cases u with
    |nil=>simp [WB] at h
    |cons c v=>
     simp only[List.cons_append,aVD,aUO] at h⊢;rw[aTJ] at hm;have h':sH d (v++[d])=some v.length:=by
      cases hq:sH d (v++[d]) with
      |none=>rw[hq] at h;cases h
      |some k=>rw[hq] at h;simp at h;rw[h]
     rw[a8R m v t (by omega) h',Option.map_map];congr 1
   ·rw[WE hb h9] at h;rw[WE hb h9];have h':sH d (u++[d])=some u.length:=by
     cases hq:sH d (u++[d]) with
     |none=>rw[hq] at h;cases h
     |some k=>rw[hq] at h;simp at h;rw[h]
    rw[a8R m u t (by omega) h',Option.map_map];congr 1
theorem aH4 {n:Nat}(hn:n=1\/n=3): ∀(s:List UInt8) (f:Bool) (t:List UInt8),sH (NT n) (D4 n f s++t)=(sH (NT n) t).map (· +(D4 n f s).length)
 |[],f,t=>by simp [D4]
 |b::u,f,t=>by
  obtain⟨_,_,h3⟩:=aH2 hn b f;unfold D4;rw[aTN,a8R _ _ _ (aTZ _) h3,aH4 hn u false t,Option.map_map];congr 1;funext k;simp only[Function.comp,aTH];omega
theorem aPJ {n:Nat}(hn:n=1\/n=3) (s z:List UInt8):sH (NT n) (AD n s++NT n::z)=some (AD n s).length:=by
 rw[aH1,aH4 hn,WC rfl];simp
abbrev H12:=Int×Int×List UInt8×Int×Int×Int×Int×List UInt8×List (List UInt8)×List rF×List Int×Int
abbrev H7:=Int×Int×Int×List UInt8×List (List UInt8)×List rF×List Int
def aPK (s:List UInt8) (P:Nat) (a bad:Int) (ends:List Int) (po:H12) (ro:H7):Prop:=
 ∃(P':Nat) (tag:List UInt8) (cm:List (List UInt8)) (fd:List rF),P<P'/\P'<=s.length/\
  po=((nS s P':Int),kS s P',xS s P',(fS s P':Int),(nS s P':Int),a,0,tag,cm,fd,ends++[(P':Int)],(P':Int))/\
  ro=((P':Int),bad,0,tag,cm,fd,ends++[(P':Int)])/\pS cm/\pS fd
def aPL (po:H12) (ro:H7):Prop:=po.2.2.2.2.2.2.1≠0/\ro.2.1=po.2.2.2.2.2.1/\ro.2.2.1=po.2.2.2.2.2.2.1
section
variable {s:List UInt8}(hsm:s.length<=4000000000) {P:Nat}(hP:P<=s.length) {a en bad:Int}{c c2:C4}{ends:List Int}(hends:ends.length<=5000) {ids:List (List UInt8×Bool)}
include hsm hP hends
theorem aPM: ∃po ro,y3 (s,((nS s P:Int),())) (kS s P,(xS s P,((fS s P:Int),((nS s P:Int),())))) a 0 c (ends,(en,())) ids=some po/\
  GX (s,((P:Int),(bad,(0,(c2,(ends,()))))))=some ro/\(aPK s P a bad ends po ro\/aPL po ro):=by
 have hQ:=(sG hP).2;have hR:=(sG hQ).2;unfold y3 GX;rw[RH hsm hQ,aTC,FG hsm hP,aTC];by_cases h0:kS s P=2/\xS s P=[99,97,116,97,108,111,103]
 ·have hPQ:P<nS s P:=BM (by omega) (by omega);rw[aTD h0,D3 rfl,wK (by rw[(AW (by decide) (by decide)).2 h0.1,h0.2];decide)];unfold tD;dsimp only;rw[aOF hsm hR,aTC,CF hsm hQ (by decide) (by decide),aTC];by_cases hk1:kS s (nS s P)=1
  ·have hQR:nS s P<nS s (nS s P):=BM (by omega) (by omega);rw[wK (by simpa using hk1)];dsimp only;rw[N9 _ (NP hsm hQ),aTD uJ];by_cases ht:tY (xS s (nS s P))=true
   ·rw[D1 (by simp [hk1,ht]) (by simp) (by simp),D3 rfl];rw[aTG (show¬(decide ((0:Int)=0)&& !val (some (tY (xS s (nS s P)))))=true from by rw[ht];decide)];unfold tD rH;rw[aTC];dsimp only;obtain⟨po,ro,hpo,hro,h5⟩:=aHI (c:=(xS s (nS s P),(c.2.1,(c.2.2.1,(c.2.2.2.1,()))))) (c2:=c2) (a:=a) (en:=(nS s (nS s P):Int)) (bad:=bad) (i1:=[]) (ids:=ids) (hd:=false) hsm hR hends hends;rw[hpo,aTC,show true= !false from rfl,hro,aTC];refine⟨_,_,rfl,rfl,?_⟩;rcases h5 with⟨P',sr,tg,cm,fg,st,fd,g1,g2,rfl,rfl,f1,f2,f3⟩ |⟨g1,g2,g3⟩
    ·exact .inl ⟨P',_,_,_,by omega,g2,rfl,rfl,f1,f3⟩
    ·exact .inr ⟨g1,g2,g3⟩
   ·rw[zD (by simp [ht]),xM (by decide)];rw[aTD (show (decide ((0:Int)=0)&& !val (some (tY (xS s (nS s P)))))=true from by rw[show tY (xS s (nS s P))=false from by simpa using ht];decide)];unfold rM;rw[wY];unfold rH;rw[aTC];dsimp only;obtain⟨po,hpo,h1,h2⟩:=IS (s:=s) (at0:=(nS s (nS s P):Int)) (c:=(xS s (nS s P),(c.2.1,(c.2.2.1,(c.2.2.2.1,()))))) (a:=(fS s (nS s P):Int)) (en:=(nS s P:Int)) (k:=kS s (nS s P)) (x:=xS s (nS s P)) (f:=(fS s (nS s P):Int)) (t:=(nS s (nS s P):Int)) (ids:=ids) (hd:=false) hends (show (3:Int)≠0 by decide);obtain⟨ro,hro,g1,g2⟩:=NR (P:=nS s (nS s P)) (c2:=c2) (bad:=(fS s (nS s P):Int)) (e:=3) (ends2:=ends) (hd:=true) (i:=i0 []) hsm hR (by decide);rw[hpo,aTC,hro,aTC];exact⟨_,_,rfl,rfl,.inr ⟨by show po.2.2.2.2.2.2.2.2.2.2.2.2.1≠0;rw[h2];decide,g1.trans h1.symm,g2.trans h2.symm⟩⟩
  ·rw[zE (by simpa using hk1),zD (by simp [hk1]),xM (by decide)];dsimp only;rw[N9 _ (NP hsm hQ),aTD uJ,aTG (show¬(decide ((3:Int)=0)&& !val (some (tY (xS s (nS s P)))))=true from by simp)];unfold rH;rw[aTC];dsimp only;obtain⟨po,hpo,h1,h2⟩:=IS (s:=s) (at0:=(nS s (nS s P):Int)) (c:=(xS s (nS s P),(c.2.1,(c.2.2.1,(c.2.2.2.1,()))))) (a:=(fS s (nS s P):Int)) (en:=(nS s P:Int)) (k:=kS s (nS s P)) (x:=xS s (nS s P)) (f:=(fS s (nS s P):Int)) (t:=(nS s (nS s P):Int)) (ids:=ids) (hd:=false) hends (show (3:Int)≠0 by decide);obtain⟨ro,hro,g1,g2⟩:=NR (P:=nS s P) (c2:=c2) (bad:=(fS s (nS s P):Int)) (e:=3) (ends2:=ends) (hd:=true) (i:=i0 []) hsm hQ (by decide);rw[hpo,aTC,hro,aTC];exact⟨_,_,rfl,rfl,.inr ⟨by show po.2.2.2.2.2.2.2.2.2.2.2.2.1≠0;rw[h2];decide,g1.trans h1.symm,g2.trans h2.symm⟩⟩
 ·rw[aTG h0,xM (by decide),zE (by simp only[aTL,aUt,aTK,AW (show (2:Int)≠0 by decide) (show (2:Int)≠4 by decide)];intro hh;rcases hh with⟨u,v|v⟩;exact absurd v (by decide);exact h0 ⟨u,v⟩)]
  dsimp only;rw[aOG (by decide),aTC,RK hsm hP (by decide),aTC];dsimp only;rw[N9 _ (NP hsm hP),aTD uJ,aTG (show¬(decide ((3:Int)=0)&& !val (some (tY (xS s P))))=true from by simp)];unfold rH;rw[aTC];dsimp only;obtain⟨po,hpo,h1,h2⟩:=IS (s:=s) (at0:=(nS s P:Int)) (c:=(xS s P,(c.2.1,(c.2.2.1,(c.2.2.2.1,()))))) (a:=(fS s P:Int)) (en:=en) (k:=kS s P) (x:=xS s P) (f:=(fS s P:Int)) (t:=(nS s P:Int)) (ids:=ids) (hd:=false) hends (show (3:Int)≠0 by decide);obtain⟨ro,hro,g1,g2⟩:=NR (P:=P) (c2:=c2) (bad:=(fS s P:Int)) (e:=3) (ends2:=ends) (hd:=true) (i:=i0 []) hsm hP (by decide);rw[hpo,aTC,hro,aTC];exact⟨_,_,rfl,rfl,.inr ⟨by show po.2.2.2.2.2.2.2.2.2.2.2.2.1≠0;rw[h2];decide,g1.trans h1.symm,g2.trans h2.symm⟩⟩
end
theorem D5 {α:Type}:pS ([]:List α):=by unfold pS;exact aUC _
theorem aPN {l:List UInt8}:(uZ l).1=4↔l=[]:=by
 cases l with
 |nil=>exact⟨fun _=>rfl,fun _=>rfl⟩
 |cons b t=>
  refine⟨fun h=> ?_,fun h=>by cases h⟩;exfalso;by_cases h1:b=123\/b=125
  ·rw[NJ h1] at h;exact absurd h (show¬(3:Int)=4 by decide)
  ·by_cases h2:b=34
   ·rw[NK h1 h2] at h;unfold y7 at h;cases he:sH 34 t with
    |none=>rw[he] at h;exact absurd h (show¬(0:Int)=4 by decide)
    |some n=>
     rw[he] at h;dsimp only at h;split at h
     ·exact absurd h (show¬(0:Int)=4 by decide)
     ·exact absurd h (show¬(1:Int)=4 by decide)
   ·by_cases h3:y6 b.toNat=true
    ·rw[NL h1 h2 h3] at h;exact absurd h (show¬(2:Int)=4 by decide)
    ·rw[NM h1 h2 h3] at h;exact absurd h (show¬(0:Int)=4 by decide)
theorem k4 {s:List UInt8}{P:Nat}(hP:P<=s.length):kS s P=4↔¬P+(G (s.drop P)).1<s.length:=by
 unfold kS tU;by_cases hg:(G (s.drop P)).2=true
 ·rw[aTD hg];dsimp only;rw[aPN,aUs,List.drop_eq_nil_iff];omega
 ·rw[aTG hg];obtain⟨t,ht⟩:=RD (s.drop P).length (s.drop P) (aTZ _) (by simpa using hg);refine⟨fun h=>absurd h (show¬(0:Int)=4 by decide),fun h=> ?_⟩;rw[aUs,List.drop_eq_nil_of_le (by omega)] at ht;cases ht
def KX (P:Nat) (ends:List Int):Prop:= ∃l:List Nat,ends=l.map (fun n:Nat=>(n:Int))/\l≠[]/\l.Pairwise (·<=·)/\∀x∈l,x<=P
theorem aPO {P P':Nat}{ends:List Int}(h:KX P ends) (hP:P<=P'):KX P' (ends++[(P':Int)]):=by
 obtain⟨l,rfl,h1,h2,h3⟩:=h;refine⟨l++[P'],by rw[List.map_append];rfl,List.append_ne_nil_of_right_ne_nil _ (List.cons_ne_nil _ _),?_,fun x hx=> ?_⟩
 ·rw[aUV];exact⟨h2,aVi _ _,fun x hx y hy=>by rw[aTQ.1 hy];exact aUE (h3 x hx) hP⟩
 ·rcases aUz.1 hx with hx|hx
  ·exact aUE (h3 x hx) hP
  ·rw[aTQ.1 hx];exact aTZ _
theorem aPP (P:Nat):KX P [(P:Int)]:=⟨[P],rfl,List.cons_ne_nil _ _,aVi _ _,fun x hx=>by rw[aTQ.1 hx];exact aTZ _⟩
theorem aPQ {P P':Nat}{ends:List Int}(h:KX P ends) (hP:P<=P'):KX P' ends:=by
 obtain⟨l,h0,h1,h2,h3⟩:=h;exact⟨l,h0,h1,h2,fun x hx=>aUE (h3 x hx) hP⟩
def aPR (n:Nat) (po:E11) (ro:E5):Prop:=
 (po.2.2.2.2.2.2.1=0/\ro.2.2.1=0/\ro.2.2.2.1=po.2.2.2.2.2.2.2.1/\ro.2.2.2.2=po.2.2.2.2.2.2.2.2.1/\po.2.2.2.2.2.2.2.1.length<=1000/\(∀y∈po.2.2.2.2.2.2.2.1,KV y)/\KX n po.2.2.2.2.2.2.2.2.1/\po.2.2.2.2.2.2.2.2.1.length<=1001)\/aHK po ro
section
variable {s:List UInt8}(hsm:s.length<=4000000000) {a bad:Int}{hp:H12}{hr:H7}
include hsm
theorem aH5: ∀(n P:Nat) (es:List rD) (ends:List Int) (en:Int) (ids:List (List UInt8×Bool)),
  s.length-P<=n->P<=s.length->es.length<=1000->ends.length<=es.length+1->NS ids es->(∀y∈es,KV y)->KX P ends->
  ∃po ro,qB (EA s hp) ((nS s P:Int),kS s P,xS s P,(fS s P:Int),(nS s P:Int),a,0,es,ends,en,ids)=some po/\
   qB (w8 s hr) ((P:Int),bad,0,es,ends)=some ro/\aPR s.length po ro
 |n,P,es,ends,en,ids,hn,hP,hes,hends,hids,hfs,hea=>by
  have hgap:=RA (KR hsm) hP;by_cases hk:kS s P=4
  ·have hg:=(k4 hP).1 hk;have e1:EA s hp ((nS s P:Int),kS s P,xS s P,(fS s P:Int),(nS s P:Int),a,0,es,ends,en,ids)=some (.inr ((nS s P:Int),kS s P,xS s P,(fS s P:Int),(nS s P:Int),a,0,es,ends,en,ids)):=by
    unfold EA;dsimp only;rw[aTG (by simp [hk])]
   have e2:w8 s hr ((P:Int),bad,0,es,ends)=some (.inr ((P:Int),bad,0,es,ends)):=by
    unfold w8;dsimp only;rw[hgap,aTD uJ,aTG (by show¬(decide ((0:Int)=0)&&decide (((P+(G (s.drop P)).1:Nat):Int)<(s.length:Int)))=true;simp;omega)]
   rw[vU e1,vU e2];exact⟨_,_,rfl,rfl,.inl ⟨rfl,rfl,rfl,rfl,hes,hfs,aPQ hea hP,(show ends.length<=1001 by omega)⟩⟩
  ·have hg:P+(G (s.drop P)).1<s.length:=by
    by_cases hh:P+(G (s.drop P)).1<s.length
    ·exact hh
    ·exact absurd ((k4 hP).2 hh) hk
   obtain⟨po,ro,hpo,hro,hres⟩:=a0g (a:=a) (en:=en) (bad:=bad) (t1:=hp.2.2.2.2.2.2.2.1) (t2:=hr.2.2.2.1) (cm1:=hp.2.2.2.2.2.2.2.2.1) (cm2:=hr.2.2.2.2.1) (fd1:=hp.2.2.2.2.2.2.2.2.2.1) (fd2:=hr.2.2.2.2.2.1) hsm hP (show ends.length<=5000 by omega) hids hes;have e1:EA s hp ((nS s P:Int),kS s P,xS s P,(fS s P:Int),(nS s P:Int),a,0,es,ends,en,ids)=some (.inl po):=by
    unfold EA;dsimp only;rw[aTD (by simp [hk]),hpo,aTC]
   have e2:w8 s hr ((P:Int),bad,0,es,ends)=some (.inl ro):=by
    unfold w8;dsimp only;rw[hgap,aTD uJ,aTD (by show (decide ((0:Int)=0)&&decide (((P+(G (s.drop P)).1:Nat):Int)<(s.length:Int)))=true;simp;omega),hro,aTC]
   rw[CH e1,CH e2];rcases hres with⟨P',y,ids',g1,g2,g3,g4,rfl,rfl,g5⟩ |hb
   ·match n,hn with
    |0,hn=>exact absurd g2 (by omega)
    |n+1,hn=>exact aH5 n P' (es++[y]) (ends++[(P':Int)]) P' ids' (by omega) g2 (by simp;omega) (by simp;omega) g4 (fun z hz=>by rcases aUz.1 hz with hz|hz;exact hfs z hz;rw[aTQ.1 hz];exact g5) (aPO hea (by omega))
   ·have e3:EA s hp po=some (.inr po):=by
     unfold EA;dsimp only;rw[aTG (by simp [hb.1])]
    have e4:w8 s hr ro=some (.inr ro):=by
     have h3:ro.2.2.1≠0:=by rw[hb.2.2];exact hb.1
     unfold w8;dsimp only;rw[aTD (by intro hh;simp [h3] at hh),aTG (by simp [h3])]
    rw[vU e3,vU e4];exact⟨_,_,rfl,rfl,.inr hb⟩
end
set_option maxRecDepth 1000000
theorem aPS:N7=some true:=by kernel_rfl
def q3 (s:List UInt8):List UInt8:=([34]++AD 3 s)++[34]
theorem BN {s:List UInt8}(h:s.length≤6000):(q3 s).length≤36002:=by
  have:=aHV (n:=3) (.inr rfl) s;simp only[q3,aTH,aTJ,aT0];omega
theorem KY {s:List UInt8}(h:s.length≤6000):AM s=some (q3 s):=by
  have h1:=BN h;have h2:IB (3:Int) s=some (AD 3 s):=aPD (n:=3) (.inr rfl) (IV h);unfold q3 at*;simp only[aTH] at h1;unfold AM;rw[h2,aTC,aTD (by simp only[aTH];omega),aTD (by simp only[aTH];omega)]
theorem vV {l:List UInt8}{n:Nat}(h:l.length≤n) (hn:n≤9223372036854775807):(l.length:Int)≤9223372036854775807:=by omega
theorem RP {l:List (List UInt8)}(h:FJ l) {i:Nat}(hi:i<l.length):(l.getD i []).length≤6000:=h.2 _ (KO hi)
theorem RQ {l:List rF}(h:IT l) {i:Nat}(hi:i<l.length):(l.getD i fD).1.length≤6000∧(l.getD i fD).2.1.length≤6000:=h.2 _ (KO hi)
abbrev aPT:List UInt8:=[10,32,32,99,111,109,109,101,110,116,32]
def D6 (s:List UInt8):List UInt8:=aPT++q3 s
def AY (l:List (List UInt8)):List UInt8:=l.flatMap D6
theorem aH6 {s:List UInt8}(h:s.length≤6000):(D6 s).length≤36013:=by
  have:=BN h;simp only[D6,aTH,aTJ,aT0];omega
theorem a8T {l:List (List UInt8)}(h:FJ l):(AY l).length≤216078000:=by
  have:=IW (l:=l) (h:=D6) (B:=36013) fun x hx=>aH6 (h.2 x hx);have h1:=h.1;unfold AY
  calc _≤l.length*36013:=this
    _≤6000*36013:=aVv _ h1
theorem aH7 {l:List (List UInt8)}(h:FJ l):ID l=some (AY l):=by
  have hl:=h.1
  have k:=RO (f:=QI l) (fun i s=>(s,i)) (fun s=>s) (n:=l.length) (M:=1000000000) (B:=36013) (fun i=>D6 (l.getD i [])) (fun i hi=>aH6 (RP h hi)) [] (by simp;omega) (fun i s hi hM=>by
    have h1:=BN (RP h hi);unfold QI;dsimp only;rw[aTD (sX hi),aTD (rR hi),W7,KY (RP h hi),aTC,aTD (vV (n:=1000000000) (by simp only[aTH,aTJ,aT0];omega) (by decide)),aTD (vV (n:=1000000000) (by simp only[aTH,aTJ,aT0];omega) (by decide)),aTD (sC (by omega))];rfl) (fun b=>by
    unfold QI;dsimp only;rw[aTG (uM _)])
  unfold ID;rw[k,X0 (l:=l) (d:=[]) D6];rfl
abbrev aPU:List UInt8:=[10,32,32,102,105,101,108,100,32]
def CI (f:rF):List UInt8:=((aPU++q3 f.1)++[32])++q3 f.2.1
def y9 (l:List rF):List UInt8:=l.flatMap CI
theorem aH8 {f:rF}(h:f.1.length≤6000∧f.2.1.length≤6000):(CI f).length≤72014:=by
  have h1:=BN h.1;have h2:=BN h.2;simp only[CI,aTH,aTJ,aT0];omega
theorem X1 {l:List rF}(h:IT l):(y9 l).length≤432084000:=by
  have:=IW (l:=l) (h:=CI) (B:=72014) fun x hx=>aH8 (h.2 x hx);have h1:=h.1;unfold y9
  calc _≤l.length*72014:=this
    _≤6000*72014:=aVv _ h1
theorem aH9 {l:List rF}(h:IT l):IE l=some (y9 l):=by
  have hl:=h.1
  have k:=RO (f:=QJ l) (fun i s=>(s,i)) (fun s=>s) (n:=l.length) (M:=1000000000) (B:=72014) (fun i=>CI (l.getD i fD)) (fun i hi=>aH8 (RQ h hi)) [] (by simp;omega) (fun i s hi hM=>by
    have h1:=BN (RQ h hi).1;have h2:=BN (RQ h hi).2;unfold QJ;dsimp only;rw[aTD (sX hi),aTD (rR hi),a8w,KY (RQ h hi).1,aTC,aTD (vV (n:=1000000000) (by simp only[aTH,aTJ,aT0];omega) (by decide)),aTD (vV (n:=1000000000) (by simp only[aTH,aTJ,aT0];omega) (by decide)),KY (RQ h hi).2,aTC,aTD (vV (n:=1000000000) (by simp only[aTH,aTJ,aT0];omega) (by decide)),aTD (vV (n:=1000000000) (by simp only[aTH,aTJ,aT0];omega) (by decide)),aTD (sC (by omega))];rfl) (fun b=>by
    unfold QJ;dsimp only;rw[aTG (uM _)])
  unfold IE;rw[k,X0 (l:=l) (d:=fD) CI];rfl
abbrev aPV:List UInt8:=[10,32,32,102,108,97,103,32]
def BO (s:List UInt8):List UInt8:=aPV++s
def xN (l:List (List UInt8)):List UInt8:=l.flatMap BO
theorem aIa {s:List UInt8}(h:s.length≤6000):(BO s).length≤6008:=by
  simp only[BO,aTH,aTJ,aT0];omega
theorem aIb {l:List (List UInt8)}(h:FJ l):(xN l).length≤36048000:=by
  have:=IW (l:=l) (h:=BO) (B:=6008) fun x hx=>aIa (h.2 x hx);have h1:=h.1;unfold xN
  calc _≤l.length*6008:=this
    _≤6000*6008:=aVv _ h1
theorem aPW {x:tC}(h:IU x) (s:List UInt8) (hs:s.length≤500000000):qB (MZ x) (s,(0:Int))=some (s++xN x.2.2.2.2.1):=by
  have hl:=h.flg.1
  have k:=RO (f:=MZ x) (fun i s=>(s,i)) (fun s=>s) (n:=x.2.2.2.2.1.length) (M:=1000000000) (B:=6008) (fun i=>BO (x.2.2.2.2.1.getD i [])) (fun i hi=>aIa (RP h.flg hi)) s (by omega) (fun i s hi hM=>by
    have h1:=RP h.flg hi;unfold MZ;dsimp only;rw[aTD (sX hi),aTD (rR hi),W7,aTD (vV (n:=1000000000) (by simp only[aTH,aTJ,aT0];omega) (by decide)),aTD (vV (n:=1000000000) (by simp only[aTH,aTJ,aT0];omega) (by decide)),aTD (sC (by omega))];rfl) (fun b=>by
    unfold MZ;dsimp only;rw[aTG (uM _)])
  rw[k,X0 (l:=x.2.2.2.2.1) (d:=[]) BO];rfl
abbrev aIc:List UInt8:=[10,10,101,110,116,114,121,32]
abbrev KZ:List UInt8:=[10,32,32,115,111,117,114,99,101,32]
abbrev L1:List UInt8:=[10,32,32,116,97,114,103,101,116,32]
abbrev aPX:List UInt8:=[10,32,32,115,116,97,116,101,32]
def xO (p s:List UInt8):List UInt8:=if s=[] then[] else p++q3 s
def FK (n:Int):List UInt8:=if n=0 then[] else aPX++pU .str wI n
def H6 (x:tC):List UInt8:=((aIc++q3 x.1)++[32,123])++AY x.2.2.2.1
def EH (x:tC):List UInt8:=H6 x++xO KZ x.2.1
def EI (x:tC):List UInt8:=EH x++xO L1 x.2.2.1
def L2 (x:tC):List UInt8:=EI x++FK x.2.2.2.2.2.1
def vD (x:tC):List UInt8:=((L2 x++xN x.2.2.2.2.1)++y9 x.2.2.2.2.2.2.1)++[10,125]
theorem aId {p s:List UInt8}(hp:p.length≤10) (h:s.length≤6000):(xO p s).length≤36012:=by
  have:=BN h;unfold xO;split
  ·simp
  ·rw[aTH];omega
theorem aIe {n:Int}(h0:0≤n) (h1:n≤4):(pU .str wI n).length≤10:=by
  have:n=0∨n=1∨n=2∨n=3∨n=4:=by omega
  rcases this with rfl|rfl|rfl|rfl|rfl<;>decide
theorem aIf {n:Int}(h0:0≤n) (h1:n≤4):(FK n).length≤19:=by
  have:=aIe h0 h1;unfold FK;split
  ·simp
  ·simp only[aTH,aTJ,aT0];omega
section
variable {x:tC}(h:IU x) (h0:0≤x.2.2.2.2.2.1) (h4:x.2.2.2.2.2.1≤4)
include h
theorem aIg:(H6 x).length≤216114012:=by
  have h1:=BN h.id;have h2:=a8T h.com;simp only[H6,aTH,aTJ,aT0];omega
theorem aIh:(EH x).length≤216150024:=by
  have h1:=aIg h;have h2:=aId (p:=KZ) (by decide) h.src;simp only[EH,aTH];omega
theorem aIi:(EI x).length≤216186036:=by
  have h1:=aIh h;have h2:=aId (p:=L1) (by decide) h.tgt;simp only[EI,aTH];omega
include h0 h4
theorem aIj:(L2 x).length≤216186055:=by
  have h1:=aIi h;have h2:=aIf h0 h4;simp only[L2,aTH];omega
theorem aIk:(vD x).length≤900000000:=by
  have h1:=aIj h h0 h4;have h2:=aIb h.flg;have h3:=X1 h.fld;simp only[vD,aTH,aTJ,aT0];omega
theorem aPY:KE x=some (vD x):=by
  have lA:=aIg h;have lB:=aIh h;have lC:=aIi h;have lD:=aIj h h0 h4;have lf:=aIb h.flg;have lg:=X1 h.fld;have li:=aIk h h0 h4;have q1:=BN h.id;have q2:=BN h.src;have q4:=BN h.tgt;have s4:=aIe h0 h4
  have eB:(if (!decide (x.2.1=([]:List UInt8)))=true then(AM x.2.1).bind fun O=>if ((([10,32,32,115,111,117,114,99,101,32]:List UInt8)++O).length:Int)≤9223372036854775807 then if ((H6 x++(([10,32,32,115,111,117,114,99,101,32]:List UInt8)++O)).length:Int)≤9223372036854775807 then some (H6 x++(([10,32,32,115,111,117,114,99,101,32]:List UInt8)++O)) else none else none else some (H6 x))=some (EH x):=by
    unfold EH xO;by_cases he:x.2.1=[]
    ·rw[aTG (by simp [he]),aTD he,List.append_nil]
    ·rw[aTD (by simp [he]),aTG he,KY h.src,aTC,aTD (vV (n:=1000000000) (by simp only[aTH,aTJ,aT0];omega) (by decide)),aTD (vV (n:=1000000000) (by simp only[aTH,aTJ,aT0];omega) (by decide))]
  have eC:(if (!decide (x.2.2.1=([]:List UInt8)))=true then(AM x.2.2.1).bind fun O=>if ((([10,32,32,116,97,114,103,101,116,32]:List UInt8)++O).length:Int)≤9223372036854775807 then if ((EH x++(([10,32,32,116,97,114,103,101,116,32]:List UInt8)++O)).length:Int)≤9223372036854775807 then some (EH x++(([10,32,32,116,97,114,103,101,116,32]:List UInt8)++O)) else none else none else some (EH x))=some (EI x):=by
    unfold EI xO;by_cases he:x.2.2.1=[]
    ·rw[aTG (by simp [he]),aTD he,List.append_nil]
    ·rw[aTD (by simp [he]),aTG he,KY h.tgt,aTC,aTD (vV (n:=1000000000) (by simp only[aTH,aTJ,aT0];omega) (by decide)),aTD (vV (n:=1000000000) (by simp only[aTH,aTJ,aT0];omega) (by decide))]
  unfold KE;rw[KY h.id,aTC,aTD (vV (n:=1000000000) (by simp only[aTH,aTJ,aT0];omega) (by decide)),aTD (vV (n:=1000000000) (by simp only[aTH,aTJ,aT0];omega) (by decide)),aH7 h.com,aTC];show (if ((H6 x).length:Int)≤_ then _ else _)=_;rw[aTD (vV (n:=1000000000) (by omega) (by decide))];refine(aUi (fun o=>rH o _) (show _=some (EH x) from eB)).trans ?_;unfold rH;rw[aTC];refine(aUi (fun o=>Option.bind o _) (show _=some (EI x) from eC)).trans ?_;rw[aTC]
  have eD: ∀K:List UInt8→Option (List UInt8),((if (!decide (x.2.2.2.2.2.1=(0:Int)))=true then
       if 0≤x.2.2.2.2.2.1∧x.2.2.2.2.2.1<(wI.length:Int) then
        if ((([10,32,32,115,116,97,116,101,32]:List UInt8)++(pU .str wI x.2.2.2.2.2.1)).length:Int)≤9223372036854775807 then
         if ((EI x++(([10,32,32,115,116,97,116,101,32]:List UInt8)++(pU .str wI x.2.2.2.2.2.1))).length:Int)≤9223372036854775807 then
          some ((EI x++(([10,32,32,115,116,97,116,101,32]:List UInt8)++(pU .str wI x.2.2.2.2.2.1))))
         else none
        else none
       else none
      else
       some (EI x)).bind K)=K (L2 x):=by
    intro K;unfold L2 FK;by_cases he:x.2.2.2.2.2.1=0
    ·rw[aTG (by simp [he]),aTD he,List.append_nil,aTC]
    ·rw[aTD (by simp [he]),aTG he,aTD ⟨h0,by show _<(5:Int);omega⟩,aTD (vV (n:=1000000000) (by simp only[aTH,aTJ,aT0];omega) (by decide)),aTD (vV (n:=1000000000) (by simp only[aTH,aTJ,aT0];omega) (by decide)),aTC]
  refine(eD _).trans ?_;rw[aPW h _ (by omega),aTC,aH9 h.fld,aTC,aTD (vV (n:=1000000000) (by simp only[aTH,aTJ,aT0];omega) (by decide)),aTD (vV (n:=1000000000) (by simp only[aTH,aTJ,aT0];omega) (by decide))];rfl
end
theorem aPZ {α β:Type}{f:α→β}{l:List α}:l.flatMap (fun x=>[f x])=l.map f:=by
  induction l with
  |nil=>rfl
  |cons x l ih=>rw[aUZ,ih];rfl
abbrev aIl:List UInt8:=[99,97,116,97,108,111,103,32]
def AE (c:C4):List UInt8:=((((aIl++q3 c.1)++[32,123])++AY c.2.1)++y9 c.2.2.1)++[10,125]
theorem aP0 {c:C4}(hc:H5 c):(AE c).length≤900000000:=by
  have h1:=BN (s:=c.1) (by have:=hc.tag;omega);have h2:=a8T hc.com;have h3:=X1 hc.fld;simp only[AE,aTH,aTJ,aT0];omega
theorem a8U {c:C4}(hok:v6 c=true) {i:Nat}(hi:i<c.2.2.2.1.length):xH (c.2.2.2.1.getD i eD)=true:=by
  unfold v6 at hok;simp only[aTL,aT8,aUp,aVm] at hok;have:=hok.2.2 i hi;unfold EG at this;simp only[aUt,aT8,not_or,Bool.not_eq_false] at this;exact this.2
theorem X2 {x:tC}(h:xH x=true):0≤x.2.2.2.2.2.1∧x.2.2.2.2.2.1≤4:=by
  unfold xH at h;simp only[aTL,aTK] at h;exact h.1.2
theorem aP1 {c:C4}(hc:H5 c):FA c=some (if v6 c=true then(AE c,c.2.2.2.1.map vD,[10],0) else([],[],[],1)):=by
  unfold FA;rw[aPt hc.fitP,aTC];by_cases hok:v6 c=true
  · have hl:=hc.len
    have q1:=BN (s:=c.1) (by have:=hc.tag;omega);have h2:=a8T hc.com;have h3:=X1 hc.fld
    have k:=RO (f:=QR c) (fun i b=>(i,b)) (fun b=>b) (n:=c.2.2.2.1.length) (M:=1000000) (B:=1) (fun i=>[vD (c.2.2.2.1.getD i eD)]) (fun i hi=>by simp) [] (by simp;omega) (fun i b hi hM=>by
      obtain⟨r0,r4⟩:=X2 (a8U hok hi);unfold QR;dsimp only;rw[aTD (sX hi),aTD (rR hi),a8N,aPY (hc.ent _ (KO hi)) r0 r4,aTC,aTD (by simp;omega),aTD (sC (by omega))]) (fun b=>by
      unfold QR;dsimp only;rw[aTG (uM _)])
    rw[hok,aTG (by decide),aTD rfl,KY (by have:=hc.tag;omega),aTC,aTD (vV (n:=1000000000) (by simp only[aTH,aTJ,aT0];omega) (by decide)),aTD (vV (n:=1000000000) (by simp only[aTH,aTJ,aT0];omega) (by decide)),aH7 hc.com,aTC,aTD (vV (n:=1000000000) (by simp only[aTH,aTJ,aT0];omega) (by decide)),aH9 hc.fld,aTC,aTD (vV (n:=1000000000) (by simp only[aTH,aTJ,aT0];omega) (by decide)),aTD (vV (n:=1000000000) (by simp only[aTH,aTJ,aT0];omega) (by decide)),k,X0 (l:=c.2.2.2.1) (d:=eD) (fun x=>[vD x])];unfold rH;rw[aTC];rw[List.nil_append,aPZ];rfl
  · simp only[aUG] at hok
    rw[hok,aTD (show (!false)=true from rfl),aTG (by decide)]
theorem aP2 {c:C4}(hc:H5 c) (hok:v6 c=true): ∀x∈([AE c]++c.2.2.2.1.map vD)++[[10]],x.length≤1000000000:=by
  intro x hx;simp only[aUz,aTQ,List.mem_map] at hx;rcases hx with(rfl|⟨y,hy,rfl⟩) |rfl
  ·have:=aP0 hc;omega
  · obtain⟨i,hi,rfl⟩:=aVe hy
    have he:=a8U hok hi;rw[aT6,aTM hi] at he;obtain⟨r0,r4⟩:=X2 he;have:=aIk (hc.ent _ hy) r0 r4;omega
  ·simp
def BP (c:C4):List UInt8:=IX (AE c) (c.2.2.2.1.map vD) [10]
theorem aP3 {c:C4}(hc:H5 c) (hok:v6 c=true):(BP c).length≤1002000000000:=by
  have h:=aP2 hc hok;have hl:=hc.len
  have e:BP c=(([AE c]++c.2.2.2.1.map vD)++[[10]]).flatMap (fun x=>x):=by
    unfold BP IX;simp [List.flatMap_def];rfl
  have:=IW (l:=([AE c]++c.2.2.2.1.map vD)++[[10]]) (h:=fun x=>x) (B:=1000000000) h;rw[e];simp only[aTH,aUl,aVJ] at this;omega
theorem a8V {c:C4}(hc:H5 c):E8 c=some (if v6 c=true then(BP c,0) else([],1)):=by
  unfold E8;rw[aP1 hc,aTC];by_cases hok:v6 c=true
  · have hl:=hc.len
    have:=aP3 hc hok;rw[aTD hok,aTD hok];dsimp only;rw[aHZ (AE c,(c.2.2.2.1.map vD,([10],()))) (by simp;omega) (by show (BP c).length≤_;omega),aTC];rfl
  · rw[aTG hok,aTG hok]
    dsimp only;rw[aHZ ([],([],([],()))) (by simp) (by simp [IX]),aTC];rfl
theorem aIm {x y b:UInt8}{t:List UInt8}(h:b≠x): ¬tO x y (b::t)=true:=by
 cases t with
 |nil=>simp [tO]
 |cons c u=>simp [tO,h]
def X3 (r:List UInt8):Prop:= ∀b t,r=b::t->vC b≠true/\b≠47
theorem X4: ∀(g r:List UInt8),(∀b∈g,vC b=true)->X3 r->G (g++r)=(g.length,true)
 |[],r,_,hr=>by
  cases r with
  |nil=>rfl
  |cons b t=>
   obtain⟨h1,h2⟩:=hr b t rfl;rw[List.nil_append,R9 h1 (aIm h2) (aIm h2)];rfl
 |b::g,r,hg,hr=>by
  rw[List.cons_append,NH (hg b aT1),X4 g r (fun x hx=>hg x (aTS _ hx)) hr];simp only[D0,aTJ,aUa,and_true];omega
theorem aP4 {g r:List UInt8}(hg: ∀b∈g,vC b=true) (hr:X3 r):tU (g++r)=((uZ r).1,(uZ r).2.1,g.length,g.length+(uZ r).2.2):=by
 unfold tU;rw[X4 g r hg hr];simp only[aVg,aVn]
structure At (s:List UInt8) (P:Nat) (l:List UInt8):Prop where
 le:P<=s.length
 eq:s.drop P=l
theorem At.tok {s:List UInt8}{P:Nat}{g r x:List UInt8}{k:Int}{m:Nat}(h:At s P (g++r)) (hg: ∀b∈g,vC b=true) (hr:X3 r) (ht:uZ r=(k,x,m)):kS s P=k/\xS s P=x/\At s (nS s P) (r.drop m):=by
 have e:=aP4 hg hr;rw[ht,<-h.eq] at e;refine⟨?_,?_,(sG h.le).2,?_⟩
 ·unfold kS;rw[e]
 ·unfold xS;rw[e]
 ·unfold nS;rw[e];dsimp only;rw[<-aUs,h.eq,<-aUs,aVn]
theorem aP5 {x z:List UInt8}(hx:sA x=true):uZ (q3 x++z)=(1,x,(q3 x).length):=by
 have e1:q3 x++z=34::(AD 3 x++34::z):=by simp [q3]
 have e2:(q3 x).length=(AD 3 x).length+2:=by simp [q3]
 have h1:sH 34 (AD 3 x++34::z)=some (AD 3 x).length:=aPJ (n:=3) (.inr rfl) x z;have h2:yO 3 (AD 3 x)=(x,0,0):=aPI (n:=3) (.inr rfl) x;rw[e1,e2,NK (by decide) rfl];unfold y7;rw[h1];dsimp only;rw[aUR,h2,aTG (by simp [hx])]
theorem aP6 (x z:List UInt8):X3 (q3 x++z):=by
 intro b t h;have:q3 x++z=34::(AD 3 x++34::z):=by simp [q3]
 rw[this] at h;cases h;exact⟨by decide,by decide⟩
theorem At.str {s:List UInt8}{P:Nat}{g x z:List UInt8}(h:At s P (g++(q3 x++z))) (hg: ∀b∈g,vC b=true) (hx:sA x=true):kS s P=1/\xS s P=x/\At s (nS s P) z:=by
 obtain⟨h1,h2,h3⟩:=h.tok hg (aP6 x z) (aP5 hx);rw[aVn] at h3;exact⟨h1,h2,h3⟩
theorem At.brace {s:List UInt8}{P:Nat}{g z:List UInt8}{b:UInt8}(hb:b=123\/b=125) (h:At s P (g++(b::z))) (hg: ∀b∈g,vC b=true):kS s P=3/\xS s P=[b]/\At s (nS s P) z:=by
 obtain⟨h1,h2,h3⟩:=h.tok hg (fun c t e=>by cases e;rcases hb with rfl|rfl<;>exact⟨by decide,by decide⟩) (NJ hb)
 exact⟨h1,h2,h3⟩
def RR (w:List UInt8):Bool:=w.all vN&&(match w with|[]=>false|b::_=>y6 b.toNat)
theorem aP7 {w z:List UInt8}(hw:w.all vN=true) (hz: ∀b t,z=b::t->vN b=false):xJ (w++z)=w.length:=by
 unfold xJ
 induction w with
 |nil=>
  cases z with
  |nil=>rfl
  |cons b t=>rw[List.nil_append,aUI,hz b t rfl];rfl
 |cons a u ih=>
  rw[List.all_cons,aTL] at hw;have:=ih hw.2;rw[List.cons_append,aUI,hw.1];simp only[Bool.not_true,aUU,aVU,aTJ];cases hf:(u++z).findIdx? fun b=> !vN b with
  |none=>rw[hf] at this;simpa using this
  |some k=>rw[hf] at this;simpa using this
theorem aP8 {b:UInt8}(h:y6 b.toNat=true): ¬(b=123\/b=125)/\¬b=34/\vC b≠true/\b≠47:=by
 refine⟨?_,?_,?_,?_⟩
 ·rintro(rfl|rfl)<;>revert h<;>decide
 ·rintro rfl;revert h;decide
 ·intro hw;unfold vC at hw;simp only[aUt,aTK] at hw;rcases hw with((rfl|rfl) |rfl) |rfl<;>revert h<;>decide
 ·rintro rfl;revert h;decide
theorem At.word {s:List UInt8}{P:Nat}{g w z:List UInt8}(h:At s P (g++(w++z))) (hg: ∀b∈g,vC b=true) (hw:RR w=true) (hz: ∀b t,z=b::t->vN b=false):kS s P=2/\xS s P=w/\At s (nS s P) z:=by
 unfold RR at hw;rw[aTL] at hw;obtain⟨h1,h2⟩:=hw;cases w with
 |nil=>cases h2
 |cons b u=>
  have h2:y6 b.toNat=true:=h2;obtain⟨n1,n2,n3,n4⟩:=aP8 h2;have hlen:=aP7 h1 hz;have ht:uZ ((b::u)++z)=(2,b::u,(b::u).length):=by
   rw[List.cons_append,NL n1 n2 h2,<-List.cons_append,hlen,aUR]
  obtain⟨k1,k2,k3⟩:=h.tok hg (fun c t e=>by cases e;exact⟨n3,n4⟩) ht;rw[aVn] at k3;exact⟨k1,k2,k3⟩
theorem aP9 {b:UInt8}(h:xF b.toNat=false):vN b=true:=by
 unfold xF at h;unfold vN RC y6;simp only[aU5,aU7,aTL,aUt,aTK] at h⊢;omega
theorem aQa {x:List UInt8}(h:rY x=true):RR x=true:=by
 cases x with
 |nil=>cases h
 |cons b t=>
  unfold rY at h;simp only[aTL,aT8,aUp,aUG] at h;obtain⟨⟨_,h1⟩,h2⟩:=h;have hb:y6 b.toNat=true/\vN b=true:=by
   unfold yK at h1;unfold vN RC y6;simp only[aTL,aUt,aTK] at h1⊢;omega
  unfold RR;rw[aTL,List.all_cons,aTL];exact⟨⟨hb.2,aUy.2 fun c hc=>aP9 (h2 c hc)⟩,hb.1⟩
theorem aQb {l:List (List UInt8)}{x:List UInt8}(h: ∀y∈l,y<x):EE l x=l++[x]:=by
 have hk:xK l x=l.length:=by
  unfold xK;rw[aUN.2 fun y hy=>by rw[CG];simpa using h y hy];rfl
 unfold EE;rw[hk,List.take_length,aUk,List.append_nil]
theorem aQc {l:List rF}{n v:List UInt8}(h: ∀y∈l,y.1<n):AU l n v=l++[(n,(v,()))]:=by
 have h1:zC l n=none:=by
  unfold zC;rw[aUN];intro y hy;have:=h y hy;simp only[aUh];intro he;rw[he] at this;exact List.lt_irrefl _ this
 have hk:EB l n=l.length:=by
  unfold EB;rw[aUN.2 fun y hy=>by rw[CG];simp [h y hy]];rfl
 unfold AU;rw[h1,hk,List.take_length,aUk,List.append_nil];rfl
theorem aQd {n:Int}(h0:0<=n) (h4:n<=4):tN (pU .str wI n)=n:=by
 have:n=0\/n=1\/n=2\/n=3\/n=4:=by omega
 rcases this with rfl|rfl|rfl|rfl|rfl<;>decide
theorem aQe {n:Int}(h0:0<=n) (h4:n<=4):RR (pU .str wI n)=true:=by
 have:n=0\/n=1\/n=2\/n=3\/n=4:=by omega
 rcases this with rfl|rfl|rfl|rfl|rfl<;>decide
theorem NU: ∀b∈([10,32,32]:List UInt8),vC b=true:=by decide
theorem FL: ∀b∈([32]:List UInt8),vC b=true:=by decide
theorem aIn: ∀b∈([10]:List UInt8),vC b=true:=by decide
theorem aIo: ∀b∈([10,10]:List UInt8),vC b=true:=by decide
theorem IY {z:List UInt8}: ∀b t,(([32]:List UInt8)++z)=b::t->vN b=false:=by
 intro b t h;cases h;decide
def EJ (z:List UInt8):Prop:= ∀b t,z=b::t->vN b=false
theorem X5 (z:List UInt8):EJ (10::z):=by
 intro b t h;cases h;decide
section
variable {s:List UInt8}(hsm:s.length<=4000000000) {c:C4}{bad bad0 at0 e0:Int}{ends:List Int}{i:rD}{hd:Bool}
 {P:Nat}{z sr tg:List UInt8}{cm fg:List (List UInt8)}{st:Int}{fd:List rF}{d1 d2 d3:Bool}
include hsm
theorem aQf {x:List UInt8}(hA:At s P (D6 x++z)) (hx:sA x=true) (hc:cm.length<20): ∃P',At s P' z/\
  uG (s,(at0,(bad0,(e0,(c,(ends,())))))) i hd ((P:Int),bad,0,sr,tg,cm,fg,st,fd,d1,d2,d3)=some (.inl ((P':Int),bad,0,sr,tg,cm++[x],fg,st,fd,d1,d2,d3)):=by
 have e:D6 x++z=[10,32,32]++(xL++([32]++(q3 x++z))):=by simp [D6]
 rw[e] at hA;obtain⟨k1,x1,A1⟩:=hA.word NU (by decide) IY;obtain⟨k2,x2,A2⟩:=A1.str FL hx;refine⟨_,A2,?_⟩;rw[AX hsm hA.le k1,a8E hsm A1.le x1 (by omega),aTC,aTD k2,x2]
theorem a8W: ∀(l:List (List UInt8)) (P:Nat) (cm:List (List UInt8)),At s P (AY l++z)->(∀x∈l,sA x=true)->cm.length+l.length<=20->∃P',At s P' z/\
  qB (uG (s,(at0,(bad0,(e0,(c,(ends,())))))) i hd) ((P:Int),bad,0,sr,tg,cm,fg,st,fd,d1,d2,d3)=qB (uG (s,(at0,(bad0,(e0,(c,(ends,())))))) i hd) ((P':Int),bad,0,sr,tg,cm++l,fg,st,fd,d1,d2,d3)
 |[],P,cm,hA,_,_=>⟨P,hA,by rw[List.append_nil]⟩
 |x::l,P,cm,hA,hx,hl=>by
  rw[aTJ] at hl;have e:AY (x::l)++z=D6 x++(AY l++z):=by simp [AY,aTN]
  rw[e] at hA;obtain⟨P1,A1,h1⟩:=aQf hsm (c:=c) (bad:=bad) (bad0:=bad0) (at0:=at0) (e0:=e0) (ends:=ends) (i:=i) (hd:=hd) (sr:=sr) (tg:=tg) (cm:=cm) (fg:=fg) (st:=st) (fd:=fd) (d1:=d1) (d2:=d2) (d3:=d3) hA (hx x aT1) (by omega);obtain⟨P2,A2,h2⟩:=a8W l P1 (cm++[x]) A1 (fun y hy=>hx y (aTS _ hy)) (by rw[aTH,aUl];omega);refine⟨P2,A2,?_⟩;rw[CH h1,h2,aTN,aUx]
theorem aQg {x:rF}(hA:At s P (CI x++z)) (hn:rY x.1=true) (hnt:sA x.1=true) (hx:sA x.2.1=true) (hlt: ∀y∈fd,y.1<x.1) (hc:fd.length<20): ∃P',At s P' z/\
  uG (s,(at0,(bad0,(e0,(c,(ends,())))))) i hd ((P:Int),bad,0,sr,tg,cm,fg,st,fd,d1,d2,d3)=some (.inl ((P':Int),bad,0,sr,tg,cm,fg,st,fd++[x],d1,d2,d3)):=by
 have e:CI x++z=[10,32,32]++(zF++([32]++(q3 x.1++([32]++(q3 x.2.1++z))))):=by simp [CI]
 rw[e] at hA;obtain⟨k1,x1,A1⟩:=hA.word NU (by decide) IY;obtain⟨k2,x2,A2⟩:=A1.str FL hnt;obtain⟨k3,x3,A3⟩:=A2.str FL hx;refine⟨_,A3,?_⟩;have hnone:(fd.any fun y=>decide (y.1=x.1))=false:=by
  rw[aUp];intro y hy;have:=hlt y hy;simp only[aTK];intro he;rw[he] at this;exact List.lt_irrefl _ this
 have hR:FH s (nS s P) bad fd=((nS s (nS s (nS s P)):Int),bad,0,fd++[x]):=by
  unfold FH;rw[aTG (by simp [k2]),x2,aTG (by simp [hn]),aTG (by simp [hnone]),aTG (by omega),aTG (by simp [k3]),x3,aQc hlt]
 rw[AX hsm hA.le k1,a8F hsm A1.le x1 (by omega),aTC,hR]
theorem a8X: ∀(l:List rF) (P:Nat) (fd:List rF),At s P (y9 l++z)->(∀x∈l,rY x.1=true/\sA x.1=true/\sA x.2.1=true)->(fd++l).Pairwise (fun a b=>a.1<b.1)->fd.length+l.length<=20->∃P',At s P' z/\
  qB (uG (s,(at0,(bad0,(e0,(c,(ends,())))))) i hd) ((P:Int),bad,0,sr,tg,cm,fg,st,fd,d1,d2,d3)=qB (uG (s,(at0,(bad0,(e0,(c,(ends,())))))) i hd) ((P':Int),bad,0,sr,tg,cm,fg,st,fd++l,d1,d2,d3)
 |[],P,fd,hA,_,_,_=>⟨P,hA,by rw[List.append_nil]⟩
 |x::l,P,fd,hA,hx,hp,hl=>by
  rw[aTJ] at hl;have e:y9 (x::l)++z=CI x++(y9 l++z):=by simp [y9,aTN]
  rw[e] at hA;obtain⟨n1,n2,n3⟩:=hx x aT1;obtain⟨P1,A1,h1⟩:=aQg hsm (c:=c) (bad:=bad) (bad0:=bad0) (at0:=at0) (e0:=e0) (ends:=ends) (i:=i) (hd:=hd) (sr:=sr) (tg:=tg) (cm:=cm) (fg:=fg) (st:=st) (fd:=fd) (d1:=d1) (d2:=d2) (d3:=d3) hA n1 n2 n3 (fun y hy=>(aUV.1 hp).2.2 y hy x aT1) (by omega);obtain⟨P2,A2,h2⟩:=a8X l P1 (fd++[x]) A1 (fun y hy=>hx y (aTS _ hy)) (by rw[aTN,aUx];exact hp) (by rw[aTH,aUl];omega);refine⟨P2,A2,?_⟩;rw[CH h1,h2,aTN,aUx]
theorem aQh {x:List UInt8}(hA:At s P (BO x++z)) (hn:rY x=true) (hz:EJ z) (hlt: ∀y∈fg,y<x) (hc:fg.length<20): ∃P',At s P' z/\
  uG (s,(at0,(bad0,(e0,(c,(ends,())))))) i false ((P:Int),bad,0,sr,tg,cm,fg,st,fd,d1,d2,d3)=some (.inl ((P':Int),bad,0,sr,tg,cm,fg++[x],st,fd,d1,d2,d3)):=by
 have e:BO x++z=[10,32,32]++(D2++([32]++(x++z))):=by simp [BO]
 rw[e] at hA;obtain⟨k1,x1,A1⟩:=hA.word NU (by decide) IY;obtain⟨k2,x2,A2⟩:=A1.word FL (aQa hn) hz;refine⟨_,A2,?_⟩;have hnone:(fg.any fun y=>decide (y=x))=false:=by
  rw[aUp];intro y hy;have:=hlt y hy;simp only[aTK];intro he;rw[he] at this;exact List.lt_irrefl _ this
 have hR:FI s (nS s P) bad fg=((nS s (nS s P):Int),bad,0,fg++[x]):=by
  unfold FI;rw[aTG (by simp [k2]),x2,aTG (by simp [hn]),aTG (by simp [hnone]),aTG (by omega),aQb hlt]
 rw[AX hsm hA.le k1,a8G hsm A1.le x1 (by omega),aTC,hR]
theorem aQi: ∀(l:List (List UInt8)) {z:List UInt8},EJ z->EJ (xN l++z)
 |[],_,hz=>hz
 |x::l,z,_=>by
  have e:xN (x::l)++z=10::([32,32,102,108,97,103,32]++(x++(xN l++z))):=by simp [xN,BO,aTN]
  rw[e];exact X5 _
theorem aIp (hz:EJ z): ∀(l:List (List UInt8)) (P:Nat) (fg:List (List UInt8)),At s P (xN l++z)->(∀x∈l,rY x=true)->(fg++l).Pairwise (· < ·)->fg.length+l.length<=20->∃P',At s P' z/\
  qB (uG (s,(at0,(bad0,(e0,(c,(ends,())))))) i false) ((P:Int),bad,0,sr,tg,cm,fg,st,fd,d1,d2,d3)=qB (uG (s,(at0,(bad0,(e0,(c,(ends,())))))) i false) ((P':Int),bad,0,sr,tg,cm,fg++l,st,fd,d1,d2,d3)
 |[],P,fg,hA,_,_,_=>⟨P,hA,by rw[List.append_nil]⟩
 |x::l,P,fg,hA,hx,hp,hl=>by
  rw[aTJ] at hl;have e:xN (x::l)++z=BO x++(xN l++z):=by simp [xN,aTN]
  rw[e] at hA;obtain⟨P1,A1,h1⟩:=aQh hsm (c:=c) (bad:=bad) (bad0:=bad0) (at0:=at0) (e0:=e0) (ends:=ends) (i:=i) (sr:=sr) (tg:=tg) (cm:=cm) (fg:=fg) (st:=st) (fd:=fd) (d1:=d1) (d2:=d2) (d3:=d3) hA (hx x aT1) (aQi hsm l hz) (fun y hy=>(aUV.1 hp).2.2 y hy x aT1) (by omega);obtain⟨P2,A2,h2⟩:=aIp hz l P1 (fg++[x]) A1 (fun y hy=>hx y (aTS _ hy)) (by rw[aTN,aUx];exact hp) (by rw[aTH,aUl];omega);refine⟨P2,A2,?_⟩;rw[CH h1,h2,aTN,aUx]
theorem aQj {x:List UInt8}(hA:At s P (xO KZ x++z)) (hx:sA x=true): ∃P' d,At s P' z/\
  qB (uG (s,(at0,(bad0,(e0,(c,(ends,())))))) i false) ((P:Int),bad,0,[],tg,cm,fg,st,fd,false,d2,d3)=qB (uG (s,(at0,(bad0,(e0,(c,(ends,())))))) i false) ((P':Int),bad,0,x,tg,cm,fg,st,fd,d,d2,d3):=by
 by_cases he:x=[]
 ·subst he;exact⟨P,false,by simpa[xO] using hA,rfl⟩
 ·have e:xO KZ x++z=[10,32,32]++(tG++([32]++(q3 x++z))):=by simp [xO,he]
  rw[e] at hA;obtain⟨k1,x1,A1⟩:=hA.word NU (by decide) IY;obtain⟨k2,x2,A2⟩:=A1.str FL hx;refine⟨_,true,A2,CH ?_⟩;rw[AX hsm hA.le k1,x1,IN hsm A1.le (by decide) (by decide) (by decide),aTC,aHC,aTG (by decide),aTD rfl,aTD k2,x2]
theorem aQk {x:List UInt8}(hA:At s P (xO L1 x++z)) (hx:sA x=true): ∃P' d,At s P' z/\
  qB (uG (s,(at0,(bad0,(e0,(c,(ends,())))))) i false) ((P:Int),bad,0,sr,[],cm,fg,st,fd,d1,false,d3)=qB (uG (s,(at0,(bad0,(e0,(c,(ends,())))))) i false) ((P':Int),bad,0,sr,x,cm,fg,st,fd,d1,d,d3):=by
 by_cases he:x=[]
 ·subst he;exact⟨P,false,by simpa[xO] using hA,rfl⟩
 ·have e:xO L1 x++z=[10,32,32]++(tH++([32]++(q3 x++z))):=by simp [xO,he]
  rw[e] at hA;obtain⟨k1,x1,A1⟩:=hA.word NU (by decide) IY;obtain⟨k2,x2,A2⟩:=A1.str FL hx;refine⟨_,true,A2,CH ?_⟩;rw[AX hsm hA.le k1,x1,IN hsm A1.le (by decide) (by decide) (by decide),aTC,aHD,aTG (by decide),aTG (by decide),aTD rfl,aTD k2,x2]
theorem aQl {n:Int}(hA:At s P (FK n++z)) (h0:0<=n) (h4:n<=4) (hz:EJ z): ∃P' d,At s P' z/\
  qB (uG (s,(at0,(bad0,(e0,(c,(ends,())))))) i false) ((P:Int),bad,0,sr,tg,cm,fg,0,fd,d1,d2,false)=qB (uG (s,(at0,(bad0,(e0,(c,(ends,())))))) i false) ((P':Int),bad,0,sr,tg,cm,fg,n,fd,d1,d2,d):=by
 by_cases he:n=0
 ·subst he;exact⟨P,false,by simpa[FK] using hA,rfl⟩
 ·have e:FK n++z=[10,32,32]++(tW++([32]++(pU .str wI n++z))):=by simp [FK,he]
  rw[e] at hA;obtain⟨k1,x1,A1⟩:=hA.word NU (by decide) IY;obtain⟨k2,x2,A2⟩:=A1.word FL (aQe h0 h4) hz;refine⟨_,true,A2,CH ?_⟩;rw[AX hsm hA.le k1,x1,IN hsm A1.le (by decide) (by decide) (by decide),aTC,aHE,aTG (by decide),aTG (by decide),aTG (by decide),aTD rfl,aTD k2,x2,aQd h0 h4,aTG (by omega)]
theorem aIq (hA:At s P ([10,125]++z)) (he:ends.length<=5000): ∃P':Nat,At s P' z/\
  qB (uG (s,(at0,(bad0,(e0,(c,(ends,())))))) i hd) ((P:Int),bad,0,sr,tg,cm,fg,st,fd,d1,d2,d3)=some (.inr ((P':Int),bad,0,ends++[(P':Int)],sr,tg,cm,fg,st,fd)):=by
 have hA':At s P ([10]++(125::z)):=hA;obtain⟨k1,x1,A1⟩:=hA'.brace (.inr rfl) aIn;exact⟨_,A1,vU (a8J hsm hA.le k1 x1 he)⟩
end
theorem aIr {l:List UInt8}(h: ∀b∈l,b.toNat<128):Lib.validD l=true:=by
 rw[Lib.validD_ascii l.length l (fun b hb=>h b (List.mem_of_mem_take hb)),aUk];rfl
theorem aQm {b:UInt8}(h:xF b.toNat=false):b.toNat<128:=by
 unfold xF at h;simp only[aU5,aU7,aTL,aTK] at h;omega
theorem aIs {x:List UInt8}(h:rY x=true):sA x=true:=by
 cases x with
 |nil=>cases h
 |cons b t=>
  unfold rY at h;simp only[aTL,aT8,aUp,aUG,aUh] at h;obtain⟨⟨h0,h1⟩,h2⟩:=h;unfold sA;rw[aTL,aTK];refine⟨by simp only[aTJ];omega,aIr fun c hc=> ?_⟩;rcases aTW.1 hc with rfl|hc
  ·unfold yK at h1;simp only[aTL,aTK] at h1;omega
  ·exact aQm (h2 c hc)
theorem aIt {x:List UInt8}(h:tY x=true):sA x=true:=by
 unfold tY at h;simp only[aTL,aT8,aUp,aUG,aTK] at h;obtain⟨h0,h1,h2⟩:=h;unfold sA;rw[aTL,aTK];refine⟨by omega,aIr fun c hc=> ?_⟩;have:=h0 c hc;unfold KM at this;simp only[aU5,aU7,aTL,aUW,aTK,aUh] at this;omega
theorem IZ {l:List (List UInt8)}(h:vR l=true):l.length<=20/\∀x∈l,sA x=true:=by
 unfold vR at h;simp only[aTL,aT8,aUp,aTK,aUG,aU7] at h;exact⟨by omega,fun x hx=>by simpa using h.2 x hx⟩
theorem aIu {α:Type}{r:α->α->Prop}(tr: ∀a b c,r a b->r b c->r a c) {l:List α}(h: ∀(i:Nat) (hi:i+1<l.length),r l[i] l[i+1]):l.Pairwise r:=by
 rw[aU1];intro i j hi hj hij;obtain⟨k,rfl⟩: ∃k,j=i+1+k:=⟨j-i-1,by omega⟩
 induction k with
 |zero=>exact h i hj
 |succ k ih=>exact tr _ _ _ (ih (by omega) (by omega)) (h (i+1+k) hj)
theorem CJ {α:Type}{l:List α}{i:Nat}{d:α}(h:i<l.length):l.getD i d=l[i]:=by
 rw[aT6,aTM h];rfl
theorem X6 {l:List (List UInt8)}(h:CD l=true):l.length<=20/\(∀x∈l,rY x=true)/\l.Pairwise (· < ·):=by
 unfold CD at h;simp only[aTL,aT8,aUp,aTK,aVm,aUG] at h;obtain⟨h1,h2⟩:=h;unfold R1 at h1;simp only[aUW,aU5,aU7,aUh] at h1;refine⟨by omega,fun x hx=> ?_,aIu (r:=fun a b:List UInt8=>a<b) (fun a b c=>List.lt_trans) fun i hi=> ?_⟩
 ·obtain⟨i,hi,rfl⟩:=aVe hx;have:=(h1 i hi).1;rwa [CJ hi] at this
 ·have:=(h1 (i+1) hi).2;rw[CJ hi,Nat.add_sub_cancel,CJ (show i<l.length by omega),CG] at this;exact aUm (this.resolve_left (by omega))
theorem J0 {l:List rF}(h:vS l=true):l.length<=20/\(∀x∈l,rY x.1=true/\sA x.1=true/\sA x.2.1=true)/\l.Pairwise (fun a b=>a.1<b.1):=by
 unfold vS at h;simp only[aTL,aT8,aUp,aTK,aVm,aUG] at h;obtain⟨h1,h2⟩:=h;unfold R2 at h1;simp only[aUW,aU5,aU7,aUh] at h1;refine⟨by omega,fun x hx=> ?_,aIu (r:=fun a b:rF=>a.1<b.1) (fun a b c=>List.lt_trans) fun i hi=> ?_⟩
 ·obtain⟨i,hi,rfl⟩:=aVe hx;have:=(h1 i hi).1;rw[CJ hi] at this;exact⟨this.1,aIs this.1,this.2⟩
 ·have:=(h1 (i+1) hi).2;rw[CJ hi,Nat.add_sub_cancel,CJ (show i<l.length by omega),CG] at this;exact aUm (this.resolve_left (by omega))
theorem aQn (l:List rF) {z:List UInt8}(hz:EJ z):EJ (y9 l++z):=by
 cases l with
 |nil=>exact hz
 |cons x l=>
  have e:y9 (x::l)++z=10::([32,32,102,105,101,108,100,32]++(q3 x.1++([32]++(q3 x.2.1++(y9 l++z))))):=by simp [y9,CI,aTN]
  rw[e];exact X5 _
theorem aQo (l:List (List UInt8)) {z:List UInt8}(hz:EJ z):EJ (xN l++z):=by
 cases l with
 |nil=>exact hz
 |cons x l=>
  have e:xN (x::l)++z=10::([32,32,102,108,97,103,32]++(x++(xN l++z))):=by simp [xN,BO,aTN]
  rw[e];exact X5 _
section
variable {s:List UInt8}(hsm:s.length<=4000000000) {bad:Int}{c2:C4}{ends:List Int}{P:Nat}{z:List UInt8}
include hsm
theorem aIv {i:rD}{hd:Bool}{z:List UInt8}(hA:At s P ([32]++(123::z))): ∃P':Nat,At s P' z/\
  xE (s,((P:Int),(bad,(0,(c2,(ends,())))))) i hd=rW (qB (uG (s,((P:Int),(bad,(0,(c2,(ends,())))))) i hd) ((P':Int),bad,0,i.2.1,i.2.2.1,i.2.2.2.1,i.2.2.2.2.1,i.2.2.2.2.2.1,i.2.2.2.2.2.2.1,false,false,false)) fun(O,Z,aA,aB,aC,aD,aE,aF,aG)=>
   some ((O,Z,aA,ends,aB,aC,aD,aE,aF,aG)):=by
 obtain⟨k1,x1,A1⟩:=hA.brace (.inl rfl) FL;refine⟨_,A1,?_⟩;unfold xE;rw[FG hsm hA.le,aTC,wK (by rw[(AW (by decide) (by decide)).2 k1,x1];decide)]
theorem aQp {x:tC}(h:xH x=true) (he:ends.length<=5000) (hA:At s P ([32]++(123::(AY x.2.2.2.1++(xO KZ x.2.1++(xO L1 x.2.2.1++(FK x.2.2.2.2.2.1++(xN x.2.2.2.2.1++(y9 x.2.2.2.2.2.2.1++([10,125]++z)))))))))): ∃P':Nat,At s P' z/\
  xE (s,((P:Int),(bad,(0,(c2,(ends,())))))) (i0 x.1) false=some ((P':Int),bad,0,ends++[(P':Int)],x.2.1,x.2.2.1,x.2.2.2.1,x.2.2.2.2.1,x.2.2.2.2.2.1,x.2.2.2.2.2.2.1):=by
 have h':=h;unfold xH at h';simp only[aTL] at h';obtain⟨⟨⟨⟨⟨⟨_,hsrc⟩,htgt⟩,hcom⟩,hflg⟩,_⟩,hfld⟩:=h';obtain⟨r0,r4⟩:=X2 h;obtain⟨c1,c2'⟩:=IZ hcom;obtain⟨f1,f2,f3⟩:=X6 hflg;obtain⟨g1,g2,g3⟩:=J0 hfld;have hb0:EJ (([10,125]:List UInt8)++z):=X5 _;have hb1:=aQn x.2.2.2.2.2.2.1 hb0;have hb2:=aQo x.2.2.2.2.1 hb1;obtain⟨P1,A1,e1⟩:=aIv (bad:=bad) (c2:=c2) (ends:=ends) (i:=i0 x.1) (hd:=false) hsm hA;obtain⟨P2,A2,e2⟩:=a8W (bad:=bad) (c:=c2) (bad0:=bad) (at0:=(P:Int)) (e0:=0) (ends:=ends) (i:=i0 x.1) (hd:=false) (sr:=[]) (tg:=[]) (fg:=[]) (st:=0) (fd:=[]) (d1:=false) (d2:=false) (d3:=false) hsm _ P1 [] A1 c2' (by simpa using c1);obtain⟨P3,d1,A3,e3⟩:=aQj (bad:=bad) (c:=c2) (bad0:=bad) (at0:=(P:Int)) (e0:=0) (ends:=ends) (i:=i0 x.1) (tg:=[]) (cm:=[]++x.2.2.2.1) (fg:=[]) (st:=0) (fd:=[]) (d2:=false) (d3:=false) hsm A2 hsrc;obtain⟨P4,d2,A4,e4⟩:=aQk (bad:=bad) (c:=c2) (bad0:=bad) (at0:=(P:Int)) (e0:=0) (ends:=ends) (i:=i0 x.1) (sr:=x.2.1) (cm:=[]++x.2.2.2.1) (fg:=[]) (st:=0) (fd:=[]) (d1:=d1) (d3:=false) hsm A3 htgt;obtain⟨P5,d3,A5,e5⟩:=aQl (bad:=bad) (c:=c2) (bad0:=bad) (at0:=(P:Int)) (e0:=0) (ends:=ends) (i:=i0 x.1) (sr:=x.2.1) (tg:=x.2.2.1) (cm:=[]++x.2.2.2.1) (fg:=[]) (fd:=[]) (d1:=d1) (d2:=d2) hsm A4 r0 r4 hb2;obtain⟨P6,A6,e6⟩:=aIp (bad:=bad) (c:=c2) (bad0:=bad) (at0:=(P:Int)) (e0:=0) (ends:=ends) (i:=i0 x.1) (sr:=x.2.1) (tg:=x.2.2.1) (cm:=[]++x.2.2.2.1) (st:=x.2.2.2.2.2.1) (fd:=[]) (d1:=d1) (d2:=d2) (d3:=d3) hsm hb1 _ P5 [] A5 f2 (by simpa using f3) (by simpa using f1);obtain⟨P7,A7,e7⟩:=a8X (bad:=bad) (c:=c2) (bad0:=bad) (at0:=(P:Int)) (e0:=0) (ends:=ends) (i:=i0 x.1) (hd:=false) (sr:=x.2.1) (tg:=x.2.2.1) (cm:=[]++x.2.2.2.1) (fg:=[]++x.2.2.2.2.1) (st:=x.2.2.2.2.2.1) (d1:=d1) (d2:=d2) (d3:=d3) hsm _ P6 [] A6 g2 (by simpa using g3) (by simpa using g1);obtain⟨P8,A8,e8⟩:=aIq (bad:=bad) (c:=c2) (bad0:=bad) (at0:=(P:Int)) (e0:=0) (ends:=ends) (i:=i0 x.1) (hd:=false) (sr:=x.2.1) (tg:=x.2.2.1) (cm:=[]++x.2.2.2.1) (fg:=[]++x.2.2.2.2.1) (st:=x.2.2.2.2.2.1) (fd:=[]++x.2.2.2.2.2.2.1) (d1:=d1) (d2:=d2) (d3:=d3) hsm A7 he;refine⟨P8,A8,?_⟩;rw[e1];refine(aUi (fun o=>rW o _) ((((((e2.trans e3).trans e4).trans e5).trans e6).trans e7).trans e8)).trans ?_;rfl
theorem aQq {tag:List UInt8}{cms:List (List UInt8)}{fds:List rF}(hcom:vR cms=true) (hfld:vS fds=true) (he:ends.length<=5000) (hA:At s P ([32]++(123::(AY cms++(y9 fds++([10,125]++z)))))): ∃P':Nat,At s P' z/\
  xE (s,((P:Int),(bad,(0,(c2,(ends,())))))) (i0 []) true=some ((P':Int),bad,0,ends++[(P':Int)],[],[],cms,[],0,fds):=by
 obtain⟨c1,c2'⟩:=IZ hcom;obtain⟨g1,g2,g3⟩:=J0 hfld;obtain⟨P1,A1,e1⟩:=aIv (bad:=bad) (c2:=c2) (ends:=ends) (i:=i0 []) (hd:=true) hsm hA;obtain⟨P2,A2,e2⟩:=a8W (bad:=bad) (c:=c2) (bad0:=bad) (at0:=(P:Int)) (e0:=0) (ends:=ends) (i:=i0 []) (hd:=true) (sr:=[]) (tg:=[]) (fg:=[]) (st:=0) (fd:=[]) (d1:=false) (d2:=false) (d3:=false) hsm _ P1 [] A1 c2' (by simpa using c1);obtain⟨P7,A7,e7⟩:=a8X (bad:=bad) (c:=c2) (bad0:=bad) (at0:=(P:Int)) (e0:=0) (ends:=ends) (i:=i0 []) (hd:=true) (sr:=[]) (tg:=[]) (cm:=[]++cms) (fg:=[]) (st:=0) (d1:=false) (d2:=false) (d3:=false) hsm _ P2 [] A2 g2 (by simpa using g3) (by simpa using g1);obtain⟨P8,A8,e8⟩:=aIq (bad:=bad) (c:=c2) (bad0:=bad) (at0:=(P:Int)) (e0:=0) (ends:=ends) (i:=i0 []) (hd:=true) (sr:=[]) (tg:=[]) (cm:=[]++cms) (fg:=[]) (st:=0) (fd:=[]++fds) (d1:=false) (d2:=false) (d3:=false) hsm A7 he;refine⟨P8,A8,?_⟩;rw[e1];refine(aUi (fun o=>rW o _) ((e2.trans e7).trans e8)).trans ?_;rfl
theorem aIw (x:tC) (z:List UInt8):vD x++z=[10,10]++([101,110,116,114,121]++([32]++(q3 x.1++([32]++(123::(AY x.2.2.2.1++(xO KZ x.2.1++(xO L1 x.2.2.1++(FK x.2.2.2.2.2.1++(xN x.2.2.2.2.1++(y9 x.2.2.2.2.2.2.1++([10,125]++z)))))))))))):=by
 simp only[vD,L2,EI,EH,H6,aIc,aTN,List.cons_append,List.nil_append]
theorem aQr {x:tC}{tag:List UInt8}{cms:List (List UInt8)}{fds:List rF}{es:List tC}(h:xH x=true) (hes:es.length<1000) (hnew:(es.any fun y=>decide (y.1=x.1))=false) (he:ends.length<=5000) (hA:At s P (vD x++z)): ∃P':Nat,At s P' z/\
  IJ (s,((P:Int),(bad,(0,((tag,(cms,(fds,(es,())))),(ends,()))))))=some ((P':Int),bad,0,es++[x],ends++[(P':Int)]):=by
 have h':=h;unfold xH at h';simp only[aTL] at h';obtain⟨⟨⟨⟨⟨⟨⟨⟨hne,h200⟩,hid⟩,_⟩,_⟩,_⟩,_⟩,_⟩,_⟩:=h';rw[aIw hsm] at hA;obtain⟨k1,x1,A1⟩:=hA.word aIo (by decide) IY;obtain⟨k2,x2,A2⟩:=A1.str FL hid;obtain⟨P',A',hb⟩:=aQp (bad:=bad) (c2:=(tag,(cms,(fds,(es,()))))) (ends:=ends) hsm h he A2;refine⟨P',A',?_⟩;unfold IJ;rw[FG hsm hA.le,aTC,wK (by rw[(AW (by decide) (by decide)).2 k1,x1];decide)];dsimp only;rw[CF hsm A1.le (by decide) (by decide),aTC,wK (by simpa using k2)];dsimp only;rw[aTG (show¬(!decide ((0:Int)=0))=true from by decide),WY _ _ (show es.length<=5000 by omega),aTC,a8L,x2];have hid': ¬(decide (x.1=[])||decide ((200:Int)<(x.1.length:Int)))=true:=by
  simp only[aT8,aUh,aTK] at hne h200;simp [hne];omega
 rw[aTG hid',aTG (fun hh=>aVL (hnew.symm.trans hh)),aTG (show¬decide ((1000:Int)<=(es.length:Int))=true from by simp;omega)];have hb':xE (s,((nS s (nS s P):Int),(bad,((0:Int),((tag,(cms,(fds,(es,())))),(ends,())))))) (x.1,([],([],([],([],(0,([],()))))))) false=_:=hb;rw[hb',aTC,aTD (by simp;omega),aTD (by simp;omega)];rfl
theorem aQs {c:C4}(ht:tY c.1=true) (hcom:vR c.2.1=true) (hfld:vS c.2.2.1=true) (hA:At s 0 (AE c++z)): ∃P':Nat,At s P' z/\
  GX (s,((0:Int),((0:Int),((0:Int),((([]:List UInt8),(([]:List (List UInt8)),(([]:List pV),(([]:List rD),())))),(([]:List Int),()))))))=some ((P':Int),0,0,c.1,c.2.1,c.2.2.1,[(P':Int)]):=by
 have e:AE c++z=[]++([99,97,116,97,108,111,103]++([32]++(q3 c.1++([32]++(123::(AY c.2.1++(y9 c.2.2.1++([10,125]++z)))))))):=by
  simp only[AE,aIl,aTN,List.cons_append,List.nil_append]
 rw[e] at hA;obtain⟨k1,x1,A1⟩:=hA.word (by simp) (by decide) IY;obtain⟨k2,x2,A2⟩:=A1.str FL (aIt ht);obtain⟨P',A',hb⟩:=aQq (bad:=0) (c2:=([],([],([],([],()))))) (ends:=[]) (tag:=c.1) hsm hcom hfld (by decide) A2;refine⟨P',A',?_⟩;have hfit:pS c.1:=by
  unfold tY at ht;simp only[aTL,aTK] at ht;unfold pS;omega
 have h1:w7 (s,(((0:Nat):Int),((0:Int),((0:Int),((([]:List UInt8),(([]:List (List UInt8)),(([]:List pV),(([]:List rD),())))),(([]:List Int),())))))) 2 [99,97,116,97,108,111,103]=_:=FG hsm hA.le;have h1':w7 (s,((0:Int),((0:Int),((0:Int),((([]:List UInt8),(([]:List (List UInt8)),(([]:List pV),(([]:List rD),())))),(([]:List Int),())))))) 2 [99,97,116,97,108,111,103]=_:=h1;unfold GX;rw[h1',aTC,wK (by rw[(AW (by decide) (by decide)).2 k1,x1];decide)];dsimp only;rw[CF hsm A1.le (by decide) (by decide),aTC,wK (by simpa using k2)];dsimp only;rw[x2,N9 _ hfit,ht,aTD uJ,aTG (show¬(decide ((0:Int)=0)&& !(val (some true)))=true from by decide)];have hb':xE (s,((nS s (nS s 0):Int),((0:Int),((0:Int),(([],([],([],([],())))),(([]:List Int),())))))) ([],([],([],([],([],(0,([],()))))))) true=_:=hb;unfold rH;rw[aTC];dsimp only;rw[hb',aTC];rfl
theorem X7 {l:List UInt8}(h:At s P l):P=s.length-l.length/\l.length<=s.length:=by
 have h1:=h.le;have h2:=aUi List.length h.eq;rw[aTR] at h2;omega
def RS (n:Nat):List tC->List Int
 |[]=>[]
 |_::l=>((n- (((l.map vD).flatten++[10]).length):Nat):Int)::RS n l
theorem aIx {c:C4}{rr:Int×Int×Int×List UInt8×List (List UInt8)×List pV×List Int}(hr:rr.2.2.2=(c.1,c.2.1,c.2.2.1,rr.2.2.2.2.2.2)): ∀(l es:List tC) (P:Nat) (ends:List Int),At s P ((l.map vD).flatten++[10])->(∀x∈l,xH x=true)->(es++l).Pairwise (fun a b=>a.1≠b.1)->es.length+l.length<=1000->ends.length<=es.length+1->∃P':Nat,
  qB (w8 s rr) ((P:Int),0,0,es,ends)=some ((P':Int),0,0,es++l,ends++RS s.length l)
 |[],es,P,ends,hA,_,_,_,_=>by
  refine⟨P,?_⟩;have hA':At s P ([10]++[]):=hA;obtain⟨p1,p2⟩:=X7 hsm hA';have hG:G ([10]++[])=(1,true):=X4 [10] [] aIn (fun b t h=>by cases h);have hg:=RA (KR hsm) hA.le;rw[hA'.eq,hG] at hg;rw[List.append_nil];refine(vA ?_).trans (by rw[RS,List.append_nil]);unfold w8;dsimp only;rw[hg,aTD uJ,aTG];show¬(decide ((0:Int)=0)&&decide (((P+1:Nat):Int)<(s.length:Int)))=true;simp only[List.append_nil,aUl] at p1 p2;simp;omega
 |x::l,es,P,ends,hA,hok,hp,hl,hle=>by
  rw[aTJ] at hl;have e:((x::l).map vD).flatten++[10]=vD x++((l.map vD).flatten++[10]):=by simp
  rw[e] at hA;have hnew:(es.any fun y=>decide (y.1=x.1))=false:=by
   rw[aUp];intro y hy;simpa using(aUV.1 hp).2.2 y hy x aT1
  obtain⟨P1,A1,h1⟩:=aQr (bad:=0) (tag:=c.1) (cms:=c.2.1) (fds:=c.2.2.1) (es:=es) (ends:=ends) hsm (hok x aT1) (by omega) hnew (by omega) hA;obtain⟨q1,q2⟩:=X7 hsm A1;obtain⟨P2,h2⟩:=aIx hr l (es++[x]) P1 (ends++[(P1:Int)]) A1 (fun y hy=>hok y (aTS _ hy)) (by rw[aTN,aUx];exact hp) (by rw[aTH,aUl];omega) (by simp only[aTH,aUl];omega);refine⟨P2,?_⟩;have hg:=RA (KR hsm) hA.le;have hlt:P+(G (s.drop P)).1<s.length:=by
   have hA':=hA;rw[aIw hsm] at hA';have hG:G (s.drop P)=(2,true):=by
    rw[hA'.eq];exact X4 [10,10] _ aIo (fun b t h=>by cases h;exact⟨by decide,by decide⟩)
   obtain⟨p1,p2⟩:=X7 hsm hA';rw[hG];simp only[aTH,aTJ,aT0] at p1 p2;omega
  have hst:w8 s rr ((P:Int),0,0,es,ends)=some (.inl ((P1:Int),0,0,es++[x],ends++[(P1:Int)])):=by
   unfold w8;dsimp only;rw[hg,aTD uJ,aTD (show (decide ((0:Int)=0)&&decide (val (some (((P+(G (s.drop P)).1:Nat):Int)))<(s.length:Int)))=true from by
    show (decide ((0:Int)=0)&&decide (((P+(G (s.drop P)).1:Nat):Int)<(s.length:Int)))=true;simp;omega)]
   have e1:rr.2.2.2.1=c.1:=by rw[hr]
   have e2:rr.2.2.2.2.1=c.2.1:=by rw[hr]
   have e3:rr.2.2.2.2.2.1=c.2.2.1:=by rw[hr]
   rw[e1,e2,e3,h1,aTC]
  rw[EU hst,h2,aTN,aTN,aUx,aUx];rw[RS,q1]
end
theorem aQt {es:List tC}(h: ∀i,i<es.length->EG es i=false):es.Pairwise (fun a b=>a.1≠b.1):=by
 rw[aU1];intro i j hi hj hij he;have h1:=h j hj;unfold EG at h1;simp only[aUW,aUp,aTK] at h1;rw[CJ hj] at h1;exact h1.1 es[i] (by rw[aVw];exact⟨i,by omega,rfl⟩) he
theorem RT {c:C4}(h:v6 c=true):tY c.1=true/\vR c.2.1=true/\vS c.2.2.1=true/\c.2.2.2.1.length<=1000/\(∀x∈c.2.2.2.1,xH x=true)/\c.2.2.2.1.Pairwise (fun a b=>a.1≠b.1):=by
 have h':=h;unfold v6 at h';simp only[aTL,aT8,aUp,aVm,aTK,aUG] at h';obtain⟨⟨⟨h1,h2⟩,h3⟩,h4,h5⟩:=h';refine⟨h1,h2,h3,by omega,fun x hx=> ?_,aQt h5⟩;obtain⟨i,hi,rfl⟩:=aVe hx;have:=a8U h hi;rwa [CJ hi] at this
theorem aQu {c:C4}(h:v6 c=true) (hsm:(BP c).length<=4000000000): ∃n:Nat,n=(AE c).length/\
  KK (BP c)=some (c.1,c.2.1,c.2.2.1,c.2.2.2.1,(n:Int)::RS (BP c).length c.2.2.2.1,0,0):=by
 obtain⟨h1,h2,h3,h4,h5,h6⟩:=RT h;obtain⟨s,hs⟩: ∃s,BP c=s:=⟨_,rfl⟩;have hs':s=AE c++((c.2.2.2.1.map vD).flatten++[10]):=by rw[<-hs];rfl
 rw[hs] at hsm⊢;have hA:At s 0 (AE c++((c.2.2.2.1.map vD).flatten++[10])):=⟨aUC _,by rw[aUO];exact hs'⟩;obtain⟨P1,A1,e1⟩:=aQs hsm h1 h2 h3 hA;obtain⟨q1,q2⟩:=X7 hsm A1;obtain⟨P2,e2⟩:=aIx (c:=c) (rr:=((P1:Int),0,0,c.1,c.2.1,c.2.2.1,[(P1:Int)])) hsm rfl c.2.2.2.1 [] P1 [(P1:Int)] A1 h5 (by simpa using h6) (by simpa using h4) (by simp);refine⟨P1,?_,?_⟩
 ·have:=aUi List.length hs';rw[aTH] at this;omega
 ·unfold KK;rw[e1,aTC];dsimp only;rw[e2];unfold rH;rw[aTC];dsimp only;rw[aTG (show¬(!decide ((0:Int)=0))=true from by decide),List.nil_append,aUx]
theorem aQv {c:C4}(h:v6 c=true) (hsm:(BP c).length<=4000000000):N5 (BP c)=some (c.1,c.2.1,c.2.2.1,c.2.2.2.1,0,0):=by
 obtain⟨n,_,e⟩:=aQu h hsm;unfold N5;rw[e,aTC]
theorem aQw {l:List UInt8}(h:(uZ l).1=1):sA (uZ l).2.1=true:=by
 cases l with
 |nil=>exact absurd h (show¬(4:Int)=1 by decide)
 |cons b t=>
  by_cases h1:b=123\/b=125
  ·rw[NJ h1] at h;exact absurd h (show¬(3:Int)=1 by decide)
  ·by_cases h2:b=34
   ·rw[NK h1 h2] at h⊢;unfold y7 at h⊢;cases he:sH 34 t with
    |none=>rw[he] at h;exact absurd h (show¬(0:Int)=1 by decide)
    |some n=>
     rw[he] at h;dsimp only at h⊢;by_cases hb:(yO 3 (t.take n)).2.2≠0\/sA (yO 3 (t.take n)).1=false
     ·rw[aTD hb] at h;exact absurd h (show¬(0:Int)=1 by decide)
     ·rw[aTG hb];cases hx:sA (yO 3 (t.take n)).1 with
      |true=>rfl
      |false=>exact absurd (.inr hx) hb
   ·by_cases h3:y6 b.toNat=true
    ·rw[NL h1 h2 h3] at h;exact absurd h (show¬(2:Int)=1 by decide)
    ·rw[NM h1 h2 h3] at h;exact absurd h (show¬(0:Int)=1 by decide)
theorem RU {s:List UInt8}{P:Nat}(h:kS s P=1):sA (xS s P)=true:=by
 unfold kS at h;unfold xS;unfold tU at h⊢;by_cases hg:(G (s.drop P)).2=true
 ·rw[aTD hg] at h⊢;exact aQw h
 ·rw[aTG hg] at h;exact absurd h (show¬(0:Int)=1 by decide)
theorem aQx {a b:List UInt8}(h: ¬a<b) (hne:a≠b):b<a:=by
 have:=a8v a b;rw[CG,CG] at this;have h1:decide (a<b)=false:=by simpa using h
 have h2:decide (b=a)=false:=by simpa using fun e=>hne e.symm
 rw[h1,h2] at this;simpa using this.symm
theorem a8Y {α:Type}(f:α->List UInt8) {x:α}{p:α->Bool}: ∀{l:List α},l.Pairwise (fun a b=>f a<f b)->(∀y∈l,f y≠f x)->(∀y∈l,p y= !decide (f y<f x))->
  (l.take ((l.findIdx? p).getD l.length)++[x]++l.drop ((l.findIdx? p).getD l.length)).Pairwise (fun a b=>f a<f b)
 |[],_,_,_=>by simp
 |a::t,hp,hne,hpp=>by
  rw[aVp] at hp;have hpa:=hpp a aT1;rw[aUI];by_cases h:f a<f x
  ·have hpf:p a=false:=by rw[hpa];simpa using h
   rw[hpf];have ih:=a8Y f (x:=x) hp.2 (fun y hy=>hne y (aTS _ hy)) (fun y hy=>hpp y (aTS _ hy));have e:((if false=true then some 0 else(t.findIdx? p).map fun i=>i+1).getD (a::t).length)=(t.findIdx? p).getD t.length+1:=by
    cases t.findIdx? p<;>rfl
   rw[e,List.take_succ_cons,aVD,List.cons_append,List.cons_append,aVp];refine⟨fun y hy=> ?_,ih⟩;rw[aTN] at hy;rcases aUz.1 hy with hy|hy
   ·exact hp.1 y (List.mem_of_mem_take hy)
   ·rcases aTW.1 hy with rfl|hy
    ·exact h
    ·exact hp.1 y (List.mem_of_mem_drop hy)
  ·have hpt:p a=true:=by rw[hpa];simpa using h
   rw[hpt];have hx:f x<f a:=aQx h (hne a aT1);show ([]++[x]++(a::t)).Pairwise _;rw[List.nil_append,aUx,aVp];refine⟨fun y hy=> ?_,aVp.2 hp⟩;rcases aTW.1 hy with rfl|hy
   ·exact hx
   ·exact List.lt_trans hx (hp.1 y hy)
theorem aIy {α:Type}{l:List α}{x y:α}{k:Nat}(h:y∈l.take k++[x]++l.drop k):y=x\/y∈l:=by
 rw[aTN] at h;rcases aUz.1 h with h|h
 ·exact .inr (List.mem_of_mem_take h)
 ·rcases aTW.1 h with h|h
  ·exact .inl h
  ·exact .inr (List.mem_of_mem_drop h)
theorem aIz {α:Type}{l:List α}{x:α}{k:Nat}:(l.take k++[x]++l.drop k).length=l.length+1:=by
 simp only[aTH,aT5,aTR,aUl];omega
theorem aQy {l:List (List UInt8)}(h:l.length<=20) (hx: ∀x∈l,sA x=true):vR l=true:=by
 unfold vR;simp only[aTL,aT8,aUp,aTK,aU7,aUG];exact⟨by omega,fun x hxl=>by simpa using hx x hxl⟩
theorem aIA {α:Type}{r:α->α->Prop}{l:List α}(h:l.Pairwise r) {i:Nat}(h0:0<i) (hi:i<l.length):r l[i-1] l[i]:=by
 rw[aU1] at h;exact h (i-1) i (by omega) hi (by omega)
theorem aQz {l:List (List UInt8)}(h:l.length<=20) (hx: ∀x∈l,rY x=true) (hp:l.Pairwise (· < ·)):CD l=true:=by
 unfold CD;simp only[aTL,aT8,aUp,aTK,aVm,aUG];refine⟨fun i hi=> ?_,by omega⟩;unfold R1;rw[CJ hi,hx _ (aUB hi)];by_cases h0:0<i
 ·rw[CJ (show i-1<l.length by omega),CG];simp [aIA hp h0 hi]
 ·simp [h0]
theorem aQA {l:List rF}(h:l.length<=20) (hx: ∀x∈l,rY x.1=true/\sA x.2.1=true) (hp:l.Pairwise (fun a b=>a.1<b.1)):vS l=true:=by
 unfold vS;simp only[aTL,aT8,aUp,aTK,aVm,aUG];refine⟨fun i hi=> ?_,by omega⟩;unfold R2;obtain⟨a,b⟩:=hx _ (aUB hi);rw[CJ hi,a,b];by_cases h0:0<i
 ·rw[CJ (show i-1<l.length by omega),CG];simp [aIA hp h0 hi]
 ·simp [h0]
theorem aQB {l:List (List UInt8)}{x:List UInt8}(h:vR l=true) (hl: ¬20<=l.length) (hx:sA x=true):vR (l++[x])=true:=by
 obtain⟨h1,h2⟩:=IZ h;refine aQy (by rw[aTH,aUl];omega) fun y hy=> ?_;rcases aUz.1 hy with hy|hy
 ·exact h2 y hy
 ·rw[aTQ.1 hy];exact hx
theorem aQC {l:List (List UInt8)}{x:List UInt8}(h:CD l=true) (hl: ¬20<=l.length) (hx:rY x=true) (hn: ¬(l.any fun y=>decide (y=x))=true):CD (EE l x)=true:=by
 obtain⟨h1,h2,h3⟩:=X6 h;have hne: ∀y∈l,y≠x:=fun y hy e=>hn (List.any_eq_true.2 ⟨y,hy,by simp [e]⟩);unfold EE xK;refine aQz (by rw[aIz];omega) (fun y hy=> ?_) (a8Y (fun y=>y) h3 hne fun y _=>by rw[CG]);rcases aIy hy with rfl|hy
 ·exact hx
 ·exact h2 y hy
theorem aQD {l:List rF}{n v:List UInt8}(h:vS l=true) (hl: ¬20<=l.length) (hx:rY n=true) (hv:sA v=true) (hn: ¬(l.any fun y=>decide (y.1=n))=true):vS (AU l n v)=true:=by
 obtain⟨h1,h2,h3⟩:=J0 h;have hne: ∀y∈l,y.1≠n:=fun y hy e=>hn (List.any_eq_true.2 ⟨y,hy,by simp [e]⟩);have hk:zC l n=none:=by
  unfold zC;rw[aUN];intro y hy;simpa using hne y hy
 unfold AU;rw[hk];show vS (l.take (EB l n)++[(n,v,())]++l.drop (EB l n))=true;unfold EB;refine aQA (by rw[aIz];omega) (fun y hy=> ?_) (a8Y (fun y:rF=>y.1) (x:=(n,v,())) h3 hne fun y hy=> ?_)
 ·rcases aIy hy with rfl|hy
  ·exact⟨hx,hv⟩
  ·exact⟨(h2 y hy).1,(h2 y hy).2.2⟩
 ·rw[CG];have:decide (y.1=n)=false:=by simpa using hne y hy
  rw[this,Bool.or_false]
end Go.Proofs.YtbbpilohihldiaaGreatDoor
