import Derived.Laws.BitsLemmas
import Derived.Lib.Index
import Derived.Lib.IndexAny
import Derived.Lib.MapLaws
import Derived.Lib.TrimAscii
import Derived.Lib.TrimUEq
import Derived.Lib.ValidLaws
import Derived.Sort.Walk0
import Derived.Test.YtedimeeleabhnaaGreatDoorV03e
set_option linter.all false
set_option maxRecDepth 100000
set_option maxHeartbeats 4000000
namespace Go.Proofs.YtedimeeleabhnaaGreatDoor
open Vc
def sZ {σ ρ:Type}(f:σ->Option (σ⊕ρ)) (x:σ):rC f x=(f x).bind λw=>match w with
    | .inl y=>rC f y
    | .inr r=>some r:=by
  cases h:f x with
  | none=>
    cases z:rC f x with
    |none=>rfl
    | some r=>
      obtain⟨n,j⟩:=cm z;cases n with
      |zero=>cases j
      |succ n=>unfold iter at j;rw[h] at j;cases j
  | some w=>
    cases w with
    |inl y=>exact AJ h
    |inr r=>exact xY h
def uX {t:Ty}{l:List t.den}{i:Nat}(h:i<l.length):qI t l (i:Int)=l[i]:=by
  unfold qI;rw[aOV,aOF,aOn h];rfl
def wJ {l:pJ}{i:Nat}(h:i<l.length):r7 l (i:Int)=(l[i].toNat:Int):=by
  unfold r7;rw[aOV,aOF,aOn h];rfl
def y4 {β:Type}(f:Nat->β) (b:β):pX->β
  |some k=>f k
  |none=>b
def xz {α ρ:Type}{f:Int->Option (Int⊕(Unit⊕ρ))}{l:List α}(p:α->Bool) (g:Nat->ρ)
    (hf: ∀(i:Nat) (h:i<l.length),f i=if p l[i]=true then some (.inr (.inr (g i))) else some (.inl (i+1)))
    (D:f l.length=some (.inr (.inl ()))): ∀(n j:Nat),j+n=l.length->rC f j=some (y4 (λk=> .inr (g (j+k))) (.inl ()) ((l.drop j).findIdx? p))
  | 0,j,E=>by
    have:j=l.length:=by omega
    subst this;rw[aOQ,sZ,D];rfl
  | n+1,j,E=>by
    have z:j<l.length:=by omega
    rw[sZ,hf j z,aOx z,aPu];by_cases hp:p l[j]=true
    · rw[aOd hp,aOd hp]
      rfl
    rw[aOi hp,aOi hp]
    show rC f ((j:Int)+1)=_;have:=xz p g hf D n (j+1) pN;rw[show ((j:Int)+1)=((j+1:Nat):Int) by omega,this];cases(l.drop (j+1)).findIdx? p with
    |none=>rfl
    | some k=>
      show some (Sum.inr (g (j+1+k)))=some (Sum.inr (g (j+(k+1))));rw[show j+1+k=j+(k+1) by omega]
def yQ {α ρ:Type}{f:Int->Option (Int⊕(Unit⊕ρ))}{l:List α}(p:α->Bool) (g:Nat->ρ)
    (hf: ∀(i:Nat) (h:i<l.length),f i=if p l[i]=true then some (.inr (.inr (g i))) else some (.inl (i+1)))
    (j:f l.length=some (.inr (.inl ()))):rC f 0=some (y4 (λk=> .inr (g k)) (.inl ()) (l.findIdx? p)):=by
  have:=xz p g hf j l.length 0 pN;simpa using this
def a3b {s:pJ}{i:Nat}(h:i<s.length) (ha:s[i].toNat<128):xW s i=(s[i].toNat:Int)/\B7 s i=i+1:=by
  have j:=Lib.decodeL_drop ⟨s.toArray⟩ i
  have z:(⟨s.toArray⟩:ByteArray).data.toList.drop i=s[i]::s.drop (i+1):=by
    show s.drop i=_;rw[aOx h]
  rw[z,Lib.decodeL_ascii _ _ ha] at j;unfold xW B7 ms;rw[<-j,aOd h];exact⟨rfl,rfl⟩
def aHj {n b0 b1 b2 b3:Nat}(h:128<=b0):128<=(Lib.decodeN n b0 b1 b2 b3).1:=by
  unfold Lib.decodeN
  repeat' split
  all_goals first|omega|(dsimp only;omega)
def a3c {s:pJ}{i:Nat}(h:i<s.length) (ha:128<=s[i].toNat):128<=xW s i:=by
  unfold xW;rw[Lib.decode_at]
  have:(⟨s.toArray⟩:ByteArray).get! i=s[i]:=by
    show s.toArray[i]! =_;simp [h]
  rw[this];exact Int.ofNat_le.2 (aHj ha)
def a3d {ρ:Type}{f:Nat->Option (Nat⊕(Unit⊕ρ))}{s:pJ}(p:Int->Bool) (g:Nat->ρ) (hb: ∀c,128<=c->p c=true)
    (hf: ∀(i:Nat) (h:i<s.length),f i=if p (xW s i)=true then some (.inr (.inr (g i))) else some (.inl (B7 s i)))
    (D:f s.length=some (.inr (.inl ()))): ∀(n j:Nat),j+n=s.length->rC f j=some (y4 (λk=> .inr (g (j+k))) (.inl ()) ((s.drop j).findIdx? (λb=>p b.toNat)))
  | 0,j,E=>by
    have:j=s.length:=by omega
    subst this;rw[aOQ,sZ,D];rfl
  | n+1,j,E=>by
    have z:j<s.length:=by omega
    rw[sZ,hf j z,aOx z,aPu];by_cases ha:s[j].toNat<128
    · obtain⟨e1,e2⟩:=a3b z ha
      rw[e1,e2];by_cases hp:p (s[j].toNat:Int)=true
      · rw[aOd hp,aOd hp]
        rfl
      rw[aOi hp,aOi hp]
      show rC f (j+1)=_;rw[a3d p g hb hf D n (j+1) pN];cases(s.drop (j+1)).findIdx? (λb=>p b.toNat) with
      |none=>rfl
      | some k=>
        show some (Sum.inr (g (j+1+k)))=some (Sum.inr (g (j+(k+1))));rw[show j+1+k=j+(k+1) by omega]
    rw[aOd (hb _ (a3c z pN)),aOd (hb _ pN)]
    rfl
def aHk {ρ:Type}{f:Nat->Option (Nat⊕(Unit⊕ρ))}{s:pJ}(p:Int->Bool) (g:Nat->ρ) (hb: ∀c,128<=c->p c=true)
    (hf: ∀(i:Nat) (h:i<s.length),f i=if p (xW s i)=true then some (.inr (.inr (g i))) else some (.inl (B7 s i)))
    (j:f s.length=some (.inr (.inl ()))):rC f 0=some (y4 (λk=> .inr (g k)) (.inl ()) (s.findIdx? (λb=>p b.toNat))):=by
  have:=a3d p g hb hf j s.length 0 pN;simpa using this
def fit {α:Type}(l:List α):Prop:=l.length<=4000000000
def s5 {i:Nat}(h:i<=4000000000):qH ((i:Int)+1):=by unfold qH;omega
def rP {i n:Nat}(h:i<n):0<=(i:Int)/\(i:Int)<(n:Int):=⟨pN,pN⟩
def sG {i n:Nat}(h:i<n):decide ((i:Int)<(n:Int))=true:=by simpa using h
def sL (n:Nat): ¬decide ((n:Int)<(n:Int))=true:=by simp
def a3e {α:Type}{p:α->Bool}: ∀{l:List α},(l.findIdx? p).isSome=l.any p
  |[]=>rfl
  | x::l=>by
    rw[aPu,List.any_cons];cases p x with
    |true=>rfl
    |false=>simp [a3e (l:=l)]
def BG {α β:Type}{p:α->Bool}{l:List α}{f:Nat->β}{b:β}:y4 f b (l.findIdx? p)=if l.any p=true then f ((l.findIdx? p).getD 0) else b:=by
  rw[<-a3e];cases l.findIdx? p with
  |none=>rfl
  |some k=>rfl
def UF (c:Int):Bool:=(((!(((97:Int)<=c)&&(c<=(122:Int))))&&(!(((48:Int)<=c)&&(c<=(57:Int)))))&&(!decide (c=(45:Int))))&&((c<(65:Int))||((90:Int)<c))
def IK (s:pJ):Bool:= !(s.any λb=>UF b.toNat)&&(((1:Int)<=(s.length:Int))&&((s.length:Int)<=(40:Int)))
def aHl (s:pJ) (j:fit s):SY s=some (IK s):=by
  unfold fit at j
  have h:=yQ (f:=O4 s) (l:=s) (λb=>UF b.toNat) (λ_=>false) (λi h=>by
    unfold O4;rw[aOd (sG h),aOd (rP h),wJ h,aOd (s5 pN)];rfl) (by
    unfold O4;rw[aOi (sL _)])
  unfold SY;rw[h,BG];unfold IK;cases s.any λb=>UF b.toNat<;>rfl
def fu (c:Int):Bool:=((((c<(97:Int))||((122:Int)<c))&&((c<(65:Int))||((90:Int)<c)))&&((c<(48:Int))||((57:Int)<c)))&&(!decide (c=(45:Int)))
def aHm (c:Int):fu c=UF c:=by
  unfold fu UF;rw[aOE];simp;omega
def aHn (s:pJ):SL s=some (IK s):=by
  have h:=aHk (f:=ND s) (s:=s) (λc=>fu c) (λ_=>false) (λc h=>by unfold fu;simp;omega) (λi h=>by
    unfold ND;rw[aOd aQe,aOd aQe];rfl) (by
    unfold ND;rw[aOi pP])
  unfold SL;rw[h,BG];simp only[aHm];unfold IK;cases s.any λb=>UF b.toNat<;>rfl
def AU (c:Int):Bool:=((((!(((97:Int)<=c)&&(c<=(122:Int))))&&(!(((48:Int)<=c)&&(c<=(57:Int)))))&&(!decide (c=(45:Int))))&&(!decide (c=(95:Int))))&&(!decide (c=(46:Int)))
def AV (c:Int):Bool:=((97:Int)<=c)&&(c<=(122:Int))
def L6:pJ->Bool
  |[]=>false
  |b::t=>(!decide (40<t.length+1)&&AV b.toNat)&& !(t.any λb=>AU b.toNat)
def a3f (s:pJ) (F:fit s):NI s=some (L6 s):=by
  unfold fit at F;unfold NI;cases s with
  |nil=>simp [L6]
  | cons b t=>
    have E:r7 (b::t) (0:Int)=(b.toNat:Int):=wJ (i:=0) pP;rw[aOd (λ_=>⟨aPf 0,by simp only[aOe];omega⟩),E];unfold L6;by_cases z:(40:Int)<((b::t).length:Int)
    · have j:40<t.length+1:=by simp only[aOe] at z;omega
      rw[aOd (by simp only[z,decide_true,Bool.or_true,Bool.true_or])];simp [j]
    have j: ¬40<t.length+1:=by simp only[aOe] at z;omega
    have D: ¬((b::t).length:Int)<1:=by simp;omega
    by_cases hb:AV b.toNat=true
    · rw[aOi (by unfold AV at hb;simp only[z,D,hb];simp)]
      have h:=xz (f:=NH (b::t)) (l:=b::t) (λb=>AU b.toNat) (λ_=>false) (λi h=>by
        unfold NH;rw[aOd (sG h),aOd (rP h),wJ h,aOd (s5 pN)];rfl) (by
        unfold NH;rw[aOi (sL _)]) t.length 1 pQ
      rw[show ((1:Nat):Int)=1 from rfl] at h;rw[h,BG];simp only[aPP,aOP,hb,j,decide_false,Bool.not_false,Bool.true_and];cases t.any λb=>AU b.toNat<;>rfl
    rw[aOd (by unfold AV at hb;simp only[hb];simp)]
    simp [hb]
def a3g (s:pJ): ∀(n j:Nat),j+n=s.length->rC (K0 s) j=some (if (s.drop j).any (λb=>AU b.toNat)=true\/(j=0/\s≠[]/\AV (s.getD 0 0).toNat=false) then .inr false else .inl ())
  | 0,j,O=>by
    have:j=s.length:=by omega
    subst this;rw[aOQ,sZ];unfold K0;rw[aOi pP];by_cases h0:s=[]
    .subst h0;simp
    · have:s.length≠0:=by simpa using h0
      simp [this]
  | n+1,j,O=>by
    have z:j<s.length:=by omega
    have ih:=a3g s n (j+1) pN;rw[sZ,aOx z,List.any_cons]
    have F:K0 s j=if (AU (s[j].toNat:Int)=true\/(j=0/\AV (s[j].toNat:Int)=false)) then some (.inr (.inr false)) else some (.inl (j+1)):=by
      unfold K0;rw[aOd aQg,aOd aQg,aOd aQg];by_cases ha:s[j].toNat<128
      · obtain⟨e1,e2⟩:=a3b z ha
        rw[e1,e2];by_cases E:AV (s[j].toNat:Int)=true
        · rw[aOd (by unfold AV at E;exact E),aOi]
          unfold AV at E;simp only[aOo,aOt] at E;simp [AU,AV];omega
        have K:AV (s[j].toNat:Int)=false:=by simpa using E
        rw[aOi (by unfold AV at E;exact E)]
        have Q: ¬(97<=(s[j].toNat:Int)/\(s[j].toNat:Int)<=122):=by
          unfold AV at E;simpa using E
        by_cases D:AU (s[j].toNat:Int)=true\/j=0
        · rw[aOi,aOd]
          · rcases D with D|D
            .exact .inl D
            exact .inr ⟨D,K⟩
          simp [AU] at D|-
          omega
        rw[aOd,aOi]
        · intro h
          rcases h with h|⟨h,_⟩
          .exact D (.inl h)
          exact D (.inr h)
        simp [AU] at D|-
        omega
      have hb:=a3c z pN
      rw[aOi pQ,aOi pQ,aOd (.inl (by simp [AU];omega))]
    rw[F];have M:s.getD 0 0=s[0]'pN:=by simp [aOF,aOn (show 0<s.length by omega)]
    have G:s≠[]:=by intro h;subst h;simp at z
    by_cases hp:AU (s[j].toNat:Int)=true\/(j=0/\AV (s[j].toNat:Int)=false)
    · rw[aOd hp,aOd]
      .rfl
      rcases hp with hp|⟨rfl,hp⟩
      .left;simp [hp]
      right;exact⟨rfl,G,by rw[M];exact hp⟩
    rw[aOi hp]
    show rC _ (j+1)=_;rw[ih]
    have I:AU (s[j].toNat:Int)=false:=by
      cases h:AU (s[j].toNat:Int) with
      |true=>exact absurd (.inl h) hp
      |false=>rfl
    simp only[I,Bool.false_or];congr 2;apply propext;constructor
    · rintro(h|⟨h,_⟩)
      .exact .inl h
      omega
    rintro(h|⟨rfl,_,h⟩)
    .exact .inl h
    rw[M] at h
    exact absurd (.inr ⟨rfl,h⟩) hp
def a3h (s:pJ):NE s=some (L6 s):=by
  have h:=a3g s s.length 0 pN;unfold NE;rw[h,aOP];cases s with
  |nil=>simp [L6,sK]
  | cons b t=>
    simp only[List.any_cons,List.getD_cons_zero,ne_eq,reduceCtorEq,not_false_eq_true,true_and,L6];cases j:AV b.toNat with
    |false=>simp [sK]
    | true=>
      have z:AU b.toNat=false:=by
        unfold AV at j;simp only[aOo,aOt] at j;simp [AU];omega
      simp only[z,Bool.false_or];cases t.any (λb=>AU b.toNat) with
      |true=>simp [sK]
      | false=>
        simp only[aOT,false_or,and_false,aPq];show some (decide ((1:Int)<=((b::t).length:Int))&&decide (((b::t).length:Int)<=40))=_;congr 1;rw[aOE];simp only[aOe,aOo,aOt,aO1,aO6,Bool.not_false,and_true];omega
def fv {β:Type}{f:Nat->β}{b:β}{o:pX}:sK (some (y4 (λk=> .inr (f k)) (.inl ()) o)) (λ_=>some b)=some (y4 f b o):=by
  cases o<;>rfl
def a3i {α:Type}{p:α->Bool}{l:List α}:decide ((0:Int)<=y4 (λk=>(k:Int)) (-1) (l.findIdx? p))=l.any p:=by
  rw[BG];cases l.any p
  .rfl
  simp only[aPl,aOt];omega
abbrev AW:=pJ×pJ×Unit
def UG {α:Type}{l:List α}{k:Nat}:s8 l 0 (k:Int)=l.take k:=by unfold s8;simp
def FO {α:Type}{l:List α}{k:Nat}:s8 l (k:Int) (l.length:Int)=l.drop k:=by
  unfold s8;rw[aOV,aOV,List.take_of_length_le];rw[aON];exact aOA _
def DC (n:Int):Prop:=0<=n/\n<=1114111/\(n<55296\/57343<n)
def L7 (n:Int):Bool:=((((0:Int)<=n)&&(n<=(1114111:Int)))&&((n<(55296:Int))||((57343:Int)<n)))
def Q2 (n:Int):L7 n=true↔DC n:=by
  unfold L7 DC;simp;omega
def fw {n:Int}(h0:0<=n) (j:n<=127):Lib.encodeRune n=tU [n]:=by
  unfold Lib.encodeRune;rw[Lib.encodeRuneZ_one h0 j];rfl
def fy {n:Int}(h0:128<=n) (j:n<=2047):Lib.encodeRune n=tU [192+n/64,128+n%64]:=by
  unfold Lib.encodeRune;rw[Lib.encodeRuneZ_two h0 j];rfl
def ya {n:Int}(h:(2048<=n/\n<55296)\/(57343<n/\n<=65535)):Lib.encodeRune n=tU [224+n/4096,128+n/64%64,128+n%64]:=by
  unfold Lib.encodeRune;rw[Lib.encodeRuneZ_three h];rfl
def a3j {n:Int}(h0:65536<=n) (j:n<=1114111):Lib.encodeRune n=tU [240+n/262144,128+n/4096%64,128+n/64%64,128+n%64]:=by
  unfold Lib.encodeRune;rw[Lib.encodeRuneZ_four h0 j];rfl
def a3k {n:Int}(h:DC n):FH n=some (Lib.encodeRune n):=by
  obtain⟨h0,z,j⟩:=h;have w1:IntKind.i64.wrap (n/64)=n/64:=by rw[aPR];omega
  have w2:IntKind.i64.wrap (n/4096)=n/4096:=by rw[aPR];omega
  have w3:IntKind.i64.wrap (n/262144)=n/262144:=by rw[aPR];omega
  have m1:Int.tmod n 64=n%64:=aPF h0;have m2:Int.tmod (n/64) 64=n/64%64:=aPF pN;have m3:Int.tmod (n/4096) 64=n/4096%64:=aPF pN;unfold FH;simp only[Int.tdiv_eq_ediv_of_nonneg h0,w1,w2,w3,m1,m2,m3,IntKind.wrap_u8];by_cases c1:n<128
  .rw[aOd (by simpa using c1),fw h0 pN,show n%256=n by omega]
  rw[aOi (by simpa using c1)]
  by_cases c2:n<2048
  .rw[aOd (by simpa using c2),aOd aQF,aOd aQF,fy pN pN,show (192+n/64) %256=192+n/64 by omega,show (128+n%64) %256=128+n%64 by omega]
  rw[aOi (by simpa using c2)]
  by_cases c3:n<65536
  .rw[aOd (by simpa using c3),aOd aQF,aOd aQF,aOd aQF,ya pN,show (224+n/4096) %256=224+n/4096 by omega,show (128+n/64%64) %256=128+n/64%64 by omega,show (128+n%64) %256=128+n%64 by omega]
  rw[aOi (by simpa using c3),aOd aQF,aOd aQF,aOd aQF,aOd aQF,a3j pN pN,show (240+n/262144) %256=240+n/262144 by omega,show (128+n/4096%64) %256=128+n/4096%64 by omega,show (128+n/64%64) %256=128+n/64%64 by omega,show (128+n%64) %256=128+n%64 by omega]
def aHo (n:Int):(Lib.encodeRuneZ n).length<=4:=by
  unfold Lib.encodeRuneZ
  repeat' split
  all_goals simp
def a3l {l:pJ}{i:Nat}(h:i<l.length):r7 l (i:Int)=((l.getD i 0).toNat:Int):=by
  rw[wJ h,aOF,aOn h];rfl
def aHp {s:pJ}{x n:Int}{i:Nat}(h:i<s.length) (D:(i:Int)<n) (F:0<=x) (E:x<=1000000) (hi:i<=10):D7 s n (x,(i:Int))=
    if (s.getD i 0).toNat/64=2 then some (.inl (64*x+(s.getD i 0).toNat-128,((i+1:Nat):Int))) else some (.inr (.inr (65533,1))):=by
  have hb:=(s.getD i 0).toNat_lt;have j:=a3l h;generalize (s.getD i 0).toNat=B at hb j|-;unfold D7;dsimp only;rw[aOd aQw,aOd (rP h),aOd (λ_=>rP h),j];by_cases z:B/64=2
  · rw[aOi pQ,aOd z,aOd aQF,aOd (rP h),show IntKind.i64.wrap (B:Int)=(B:Int) by rw[aPR];omega,
      aOd aQF,aOd aQF,aOd aQF]
    rfl
  rw[aOd pQ,aOi z]
def yb {s:pJ}{x n i:Int}(h:n<=i):D7 s n (x,i)=some (.inr (.inl x)):=by
  unfold D7;dsimp only;rw[aOi aQe]
def uO (s:pJ) (i:Nat):Bool:=decide ((s.getD i 0).toNat/64=2)
def yR (s:pJ) (i:Nat) (x:Int):Int:=64*x+(s.getD i 0).toNat-128
def yc {s:pJ}{i:Nat}{x m:Int}(h0:0<=x) (hm:x<=m) (j:uO s i=true):0<=yR s i x/\yR s i x<=64*m+63:=by
  have hb:=(s.getD i 0).toNat_lt;unfold uO at j;unfold yR;simp only[aOt] at j;omega
def UH {s:pJ}{x n:Int}{i:Nat}(h:i<s.length) (E:(i:Int)<n) (D:0<=x) (z:x<=1000000) (hi:i<=10):
    rC (D7 s n) (x,(i:Int))=if uO s i=true then rC (D7 s n) (yR s i x,((i+1:Nat):Int)) else some (.inr (65533,1)):=by
  rw[sZ,aHp h E D z hi];unfold uO yR;simp only[aOt];by_cases j:(s.getD i 0).toNat/64=2
  .rw[aOd j,aOd j];rfl
  rw[aOi j,aOi j];rfl
def aHq {s:pJ}{x:Int}(h:1<s.length) (j:0<=x) (z:x<=31):rC (D7 s 2) (x,1)=some (if uO s 1=true then .inl (yR s 1 x) else .inr (65533,1)):=by
  show rC _ (x,((1:Nat):Int))=_;rw[UH h pO j pN pO];by_cases c1:uO s 1=true
  .rw[aOd c1,aOd c1,xY (yb pO)]
  rw[aOi c1,aOi c1]
def aHr {s:pJ}{x:Int}(h:2<s.length) (z:0<=x) (j:x<=15):rC (D7 s 3) (x,1)=some (if (uO s 1&&uO s 2)=true then .inl (yR s 2 (yR s 1 x)) else .inr (65533,1)):=by
  show rC _ (x,((1:Nat):Int))=_;rw[UH pN pO z pN pO];by_cases c1:uO s 1=true
  · have b1:=yc z j c1
    rw[aOd c1,UH h pO b1.1 pN pO,c1,Bool.true_and];by_cases c2:uO s 2=true
    .rw[aOd c2,aOd c2,xY (yb pO)]
    rw[aOi c2,aOi c2]
  rw[aOi c1,aOi (by simp [c1])]
def aHs {s:pJ}{x:Int}(h:3<s.length) (z:0<=x) (j:x<=7):rC (D7 s 4) (x,1)=some (if (uO s 1&&uO s 2&&uO s 3)=true then .inl (yR s 3 (yR s 2 (yR s 1 x))) else .inr (65533,1)):=by
  show rC _ (x,((1:Nat):Int))=_;rw[UH pN pO z pN pO];by_cases c1:uO s 1=true
  · have b1:=yc z j c1
    rw[aOd c1,UH pN pO b1.1 pN pO,c1,Bool.true_and];by_cases c2:uO s 2=true
    · have b2:=yc b1.1 b1.2 c2
      rw[aOd c2,UH h pO b2.1 pN pO,c2,Bool.true_and];by_cases c3:uO s 3=true
      .rw[aOd c3,aOd c3,xY (yb pO)]
      rw[aOi c3,aOi c3]
    rw[aOi c2,aOi (by simp [c2])]
  rw[aOi c1,aOi (by simp [c1])]
def tQ (s:pJ) (x:Int) (n:Nat):Int×Int:=if L7 x=true/\Lib.encodeRune x=s.take n then(x,n) else(65533,1)
def yd {s:pJ}{x:Int}{n:Nat}(F:n<=s.length):
    (if (((!((((0:Int)<=x)&&(x<=(1114111:Int)))&&((x<(55296:Int))||((57343:Int)<x))))==false)=true->((FH x)).isSome=true) then
    if (((!((((0:Int)<=x)&&(x<=(1114111:Int)))&&((x<(55296:Int))||((57343:Int)<x))))==false)=true->0<=(0:Int)/\(0:Int)<=(n:Int)/\(n:Int)<=(s.length:Int)) then
     if ((!((((0:Int)<=x)&&(x<=(1114111:Int)))&&((x<(55296:Int))||((57343:Int)<x))))||(!decide ((val (FH x))=(s8 s (0:Int) (n:Int)))))=true then
      some (((65533:Int),(1:Int)))
     else
      some ((x,(n:Int)))
    else none
   else none)=some (tQ s x n):=by
  rw[UG];simp only[show ((((0:Int)<=x)&&(x<=(1114111:Int)))&&((x<(55296:Int))||((57343:Int)<x)))=L7 x from rfl]
  unfold tQ;by_cases z:L7 x=true
  · have E:=a3k ((Q2 x).1 z)
    rw[aOd (λ_=>by rw[E];rfl),aOd (λ_=>⟨aPf _,pN,pN⟩),E,z];by_cases D:Lib.encodeRune x=s.take n
    .rw[aOi (by simp [val,D]),aOd ⟨rfl,D⟩]
    rw[aOd (by simp [val,D]),aOi (λh=>D h.2)]
  have j:L7 x=false:=by simpa using z
  rw[aOd (λh=>by simp [j] at h),aOd (λh=>by simp [j] at h),aOd aQG,aOi (λh=>z h.1)]
def IL (z:Int) (l:pU) (x:UInt8) (h:z=(x.toNat:Int)):tU (z::l)=x::tU l:=by
  show UInt8.ofNat z.toNat::tU l=_;rw[h];simp
def ye:tU []=[]:=rfl
def UI (l:pU):(tU l).length=l.length:=by simp [tU]
def aHt {s:pJ}(E:1<s.length) (h0:192<=(s.getD 0 0).toNat) (G:(s.getD 0 0).toNat<224) (j:uO s 1=true):
    tQ s (yR s 1 ((s.getD 0 0).toNat-192)) 2=(((Lib.decodeL s).1:Int),((Lib.decodeL s).2:Int)):=by
  unfold uO at j;simp only[aOt] at j;have k0:=(s.getD 0 0).toNat_lt;have k1:=(s.getD 1 0).toNat_lt
  have F:Lib.decodeL s=if (s.getD 0 0).toNat%32*64+(s.getD 1 0).toNat%64>=128 then((s.getD 0 0).toNat%32*64+(s.getD 1 0).toNat%64,2) else(65533,1):=by
    rw[Lib.decodeL_N];unfold Lib.decodeN;rw[aOi pN,aOd ⟨pN,pN,j⟩]
  rw[F];unfold tQ yR;rw[Lib.takeB s E];have D:L7 (64*((s.getD 0 0).toNat-192)+(s.getD 1 0).toNat-128)=true:=(Q2 _).2 (by unfold DC;omega);rw[D];by_cases hv:(s.getD 0 0).toNat%32*64+(s.getD 1 0).toNat%64>=128
  · rw[aOd hv,aOd ⟨rfl,by
      rw[fy pN pN,IL _ _ (s.getD 0 0) pN,IL _ _ (s.getD 1 0) pN,ye]⟩]
    exact Prod.ext (by show _=(((_:Nat)):Int);omega) rfl
  rw[aOi hv,aOi (λh=>by
    have z:=aOI List.length h.2;rw[fw pN pN,UI] at z;simp at z)]
  rfl
def aHu {s:pJ}(G:2<s.length) (h0:224<=(s.getD 0 0).toNat) (Q:(s.getD 0 0).toNat<240) (D:uO s 1=true) (j:uO s 2=true):
    tQ s (yR s 2 (yR s 1 ((s.getD 0 0).toNat-224))) 3=(((Lib.decodeL s).1:Int),((Lib.decodeL s).2:Int)):=by
  unfold uO at D j;simp only[aOt] at D j;have k0:=(s.getD 0 0).toNat_lt;have k1:=(s.getD 1 0).toNat_lt;have k2:=(s.getD 2 0).toNat_lt;obtain⟨V,K⟩: ∃V,(s.getD 0 0).toNat%16*4096+(s.getD 1 0).toNat%64*64+(s.getD 2 0).toNat%64=V:=⟨_,rfl⟩
  have I:Lib.decodeL s=if V>=2048/\(V<55296\/(57344<=V/\V<=1114111)) then(V,3) else(65533,1):=by
    rw[Lib.decodeL_N];unfold Lib.decodeN;rw[aOi pN,aOi pN,aOd ⟨pN,⟨pN,D⟩,pN,j⟩,K]
  rw[I];unfold tQ yR;rw[Lib.takeC s G];generalize R:64*(64*(((s.getD 0 0).toNat:Int)-224)+(s.getD 1 0).toNat-128)+(s.getD 2 0).toNat-128=X;have E:X=(V:Int):=by omega
  by_cases hv:V>=2048/\(V<55296\/(57344<=V/\V<=1114111))
  · rw[aOd hv,aOd ⟨(Q2 _).2 (by unfold DC;omega),by
      rw[ya pN,IL _ _ (s.getD 0 0) pN,IL _ _ (s.getD 1 0) pN,IL _ _ (s.getD 2 0) pN,ye]⟩]
    exact Prod.ext E rfl
  rw[aOi hv,aOi (λh=>by
    have F:=(Q2 _).1 h.1;unfold DC at F;have O:X<2048:=by omega
    have z:=aOI List.length h.2;by_cases M:X<=127
    .rw[fw pN M,UI] at z;simp at z
    rw[fy pN pN,UI] at z;simp at z)]
  rfl
def aHv {s:pJ}(I:3<s.length) (h0:240<=(s.getD 0 0).toNat) (R:(s.getD 0 0).toNat<248) (E:uO s 1=true) (z:uO s 2=true) (j:uO s 3=true):
    tQ s (yR s 3 (yR s 2 (yR s 1 ((s.getD 0 0).toNat-240)))) 4=(((Lib.decodeL s).1:Int),((Lib.decodeL s).2:Int)):=by
  unfold uO at E z j;simp only[aOt] at E z j;have k0:=(s.getD 0 0).toNat_lt;have k1:=(s.getD 1 0).toNat_lt;have k2:=(s.getD 2 0).toNat_lt;have k3:=(s.getD 3 0).toNat_lt;obtain⟨V,M⟩: ∃V,(s.getD 0 0).toNat%8*262144+(s.getD 1 0).toNat%64*4096+(s.getD 2 0).toNat%64*64+(s.getD 3 0).toNat%64=V:=⟨_,rfl⟩
  have K:Lib.decodeL s=if V>=65536/\(V<55296\/(57344<=V/\V<=1114111)) then(V,4) else(65533,1):=by
    rw[Lib.decodeL_N];unfold Lib.decodeN;rw[aOi pN,aOi pN,aOi pN,aOd ⟨pN,⟨pN,E⟩,⟨pN,z⟩,pN,j⟩,M]
  rw[K];unfold tQ yR;rw[Lib.takeD s I];generalize U:64*(64*(64*(((s.getD 0 0).toNat:Int)-240)+(s.getD 1 0).toNat-128)+(s.getD 2 0).toNat-128)+(s.getD 3 0).toNat-128=X;have F:X=(V:Int):=by omega
  by_cases hv:V>=65536/\(V<55296\/(57344<=V/\V<=1114111))
  · rw[aOd hv,aOd ⟨(Q2 _).2 (by unfold DC;omega),by
      rw[a3j pN pN,IL _ _ (s.getD 0 0) pN,IL _ _ (s.getD 1 0) pN,IL _ _ (s.getD 2 0) pN,IL _ _ (s.getD 3 0) pN,ye]⟩]
    exact Prod.ext F rfl
  rw[aOi hv,aOi (λh=>by
    have G:=(Q2 _).1 h.1;unfold DC at G;have Q:X<65536:=by omega
    have D:=aOI List.length h.2;by_cases O:X<=127
    .rw[fw pN O,UI] at D;simp at D
    by_cases h8:X<=2047
    .rw[fy pN pN,UI] at D;simp at D
    rw[ya pN,UI] at D;simp at D)]
  rfl
def Q3 {s:pJ}(h: ¬(s.getD 0 0).toNat<128) (D: ¬((s.getD 0 0).toNat/32=6/\1<s.length/\uO s 1=true)) (z: ¬((s.getD 0 0).toNat/16=14/\2<s.length/\(uO s 1&&uO s 2)=true))
    (j: ¬((s.getD 0 0).toNat/8=30/\3<s.length/\(uO s 1&&uO s 2&&uO s 3)=true)):Lib.decodeL s=(65533,1):=by
  unfold uO at D z j;simp only[aOo,aOt] at D z j;rw[Lib.decodeL_N];unfold Lib.decodeN;rw[aOi h,aOi (λ⟨a,b,c⟩=>D ⟨a,b,c⟩),aOi (λ⟨a,⟨b,c⟩,d,e⟩=>z ⟨a,d,c,e⟩),aOi (λ⟨a,⟨b,c⟩,⟨d,e⟩,f,g⟩=>j ⟨a,f,⟨c,e⟩,g⟩)]
def a3m {s:pJ}(E:s≠[]):OB s=some (((Lib.decodeL s).1:Int),((Lib.decodeL s).2:Int)):=by
  have I:0<s.length:=aP1.2 E;have F:r7 s 0=((s.getD 0 0).toNat:Int):=a3l (i:=0) I;have k0:=(s.getD 0 0).toNat_lt;have G:IntKind.i64.wrap ((s.getD 0 0).toNat:Int)=((s.getD 0 0).toNat:Int):=by rw[aPR];omega
  unfold OB;rw[aOd ⟨aPf _,pN⟩,F,G];by_cases c1:(s.getD 0 0).toNat<128
  · rw[aOd aQH]
    rw[Lib.decodeL_N];unfold Lib.decodeN;rw[aOd c1];rfl
  rw[aOi aQH]
  by_cases c2:192<=(s.getD 0 0).toNat/\(s.getD 0 0).toNat<224
  · rw[aOd aQI,aOd aQF]
    show (if decide ((s.length:Int)<2)=true then _ else _)=_;by_cases l2:1<s.length
    · rw[aOi aQH,aHq l2 pN pN]
      by_cases j:uO s 1=true
      · rw[aOd j,<-aHt l2 c2.1 c2.2 j,<-yd (s:=s) (n:=2) pN]
        rfl
      rw[aOi j,Q3 c1 (λh=>j h.2.2) (λh=>by omega) (λh=>by omega)]
      rfl
    rw[aOd aQH,Q3 c1 (λh=>l2 h.2.1) (λh=>by omega) (λh=>by omega)]
    rfl
  rw[aOi aQI]
  by_cases c3:224<=(s.getD 0 0).toNat/\(s.getD 0 0).toNat<240
  · rw[aOd aQI,aOd aQF]
    show (if decide ((s.length:Int)<3)=true then _ else _)=_;by_cases l2:2<s.length
    · rw[aOi aQH,aHr l2 pN pN]
      by_cases j:(uO s 1&&uO s 2)=true
      · have z:=aOo _ _▸j
        rw[aOd j,<-aHu l2 c3.1 c3.2 z.1 z.2,<-yd (s:=s) (n:=3) pN];rfl
      rw[aOi j,Q3 c1 (λh=>by omega) (λh=>j h.2.2) (λh=>by omega)]
      rfl
    rw[aOd aQH,Q3 c1 (λh=>by omega) (λh=>l2 h.2.1) (λh=>by omega)]
    rfl
  rw[aOi aQI]
  by_cases c4:240<=(s.getD 0 0).toNat/\(s.getD 0 0).toNat<248
  · rw[aOd aQI,aOd aQF]
    show (if decide ((s.length:Int)<4)=true then _ else _)=_;by_cases l2:3<s.length
    · rw[aOi aQH,aHs l2 pN pN]
      by_cases j:(uO s 1&&uO s 2&&uO s 3)=true
      · have z:=aOo _ _▸j
        have D:=aOo _ _▸z.1;rw[aOd j,<-aHv l2 c4.1 c4.2 D.1 D.2 z.2,<-yd (s:=s) (n:=4) pN];rfl
      rw[aOi j,Q3 c1 (λh=>by omega) (λh=>by omega) (λh=>j h.2.2)]
      rfl
    rw[aOd aQH,Q3 c1 (λh=>by omega) (λh=>by omega) (λh=>l2 h.2.1)]
    rfl
  rw[aOi aQI,Q3 c1 (λh=>by omega) (λh=>by omega) (λh=>by omega)]
  rfl
def zL:Nat->pJ->pU
  |0,_=>[]
  |n+1,s=>if s=[] then[] else((Lib.decodeL s).1:Int)::zL n (s.drop (Lib.decodeL s).2)
def a3n: ∀(n:Nat) (s:pJ),(zL n s).length<=n
  |0,_=>aOA _
  | n+1,s=>by
    unfold zL;split
    .simp
    simp only[aOe]
    have:=a3n n (s.drop (Lib.decodeL s).2);omega
def aHw (s:pJ):DC ((Lib.decodeL s).1:Int):=by
  have k0:=(s.getD 0 0).toNat_lt;rw[Lib.decodeL_N];rcases Lib.decodeN_shape s.length (s.getD 0 0).toNat (s.getD 1 0).toNat (s.getD 2 0).toNat (s.getD 3 0).toNat with⟨c,e⟩ |⟨c1,c2,c3,cv,e⟩ |⟨c1,c2,c3,c4,cv,cs,e⟩ |⟨c1,c2,c3,c4,c5,cv,cw,e⟩ |e
  all_goals (rw[e];unfold DC;dsimp only;omega)
def a3o: ∀(n:Nat) (s:pJ) (out:pU),s.length<=n->out.length+s.length<=4000000000->rC KL (s,out)=some (out++zL n s)
  | n,[],out,_,_=>by
    rw[xY (r:=out) (by unfold KL;simp)];cases n<;>simp [zL]
  |0,b::t,_,h,_=>by simp at h
  | n+1,b::t,out,h,E=>by
    have j:(b::t)≠[]:=by simp
    have D:=Lib.decodeL_le (b::t) j;have F:=Lib.decodeL_width (b::t)
    have z:KL (b::t,out)=some (.inl ((b::t).drop (Lib.decodeL (b::t)).2,out++[((Lib.decodeL (b::t)).1:Int)])):=by
      unfold KL;dsimp only;rw[aOd pP,a3m j];simp only[aOc];rw[aOd aQJ,aOd ⟨pN,pN,aPf _⟩,FO]
    rw[AJ z,a3o n _ _ (by rw[aON];simp only[aOe] at h D|-;omega) (by rw[aON,aOg];simp only[aOe,aOh] at E D|-;omega)];rw[show zL (n+1) (b::t)=((Lib.decodeL (b::t)).1:Int)::zL n ((b::t).drop (Lib.decodeL (b::t)).2) by rw[zL,aOi j],aOk];rfl
def ga (s:pJ):pU:=zL s.length s
def aHx (s:pJ) (j:fit s):TK s=some (ga s):=by
  unfold fit at j;unfold TK;rw[a3o s.length s [] (aOA _) aQf];rfl
def a3p: ∀(n:Nat) (s:pJ),∀x∈zL n s,DC x
  |0,_,_,h=>by cases h
  | n+1,s,x,h=>by
    unfold zL at h;split at h
    .cases h
    rcases aOv.1 h with h|h
    .rw[h];exact aHw s
    exact a3p n _ x h
def L8 (l:pU):pJ:=(l.map Lib.encodeRune).flatten
def aHy (n:Int):(Lib.encodeRune n).length<=4:=by
  unfold Lib.encodeRune;rw[aPa];exact aHo n
def a3q (l:pU) (E: ∀x∈l,DC x) (G:fit l): ∀(n j:Nat) (s:pJ),j+n=l.length->s.length+4*n<=10000000000000->rC (KD l) (s,(j:Int))=some (s++L8 (l.drop j))
  | 0,j,s,I,_=>by
    have:j=l.length:=by omega
    subst this;rw[xY (r:=s) (by unfold KD;simp),aOQ];simp [L8]
  | n+1,j,s,I,K=>by
    have z:j<l.length:=by omega
    unfold fit at G;have F:=E l[j] (aOm z);have M:=aHy l[j]
    have D:KD l (s,(j:Int))=some (.inl (s++Lib.encodeRune l[j],((j+1:Nat):Int))):=by
      unfold KD;dsimp only;rw[aOd (sG z),aOd (rP z),uX (t:= .int .i64) z];have hb:=(Q2 l[j]).2 F;unfold L7 at hb;rw[aOd hb,aOd (rP z),a3k F];simp only[aOc];rw[aOd aQK,aOd (s5 pN)];rfl
    rw[AJ D,a3q l E G n (j+1) _ pN aQK,aOx z,aOk];rfl
def aHz (l:pU) (j: ∀x∈l,DC x) (D:fit l):T1 l=some (L8 l):=by
  have z:=D;unfold fit at z;unfold T1;rw[show ((0:Int))=((0:Nat):Int) from rfl,a3q l j D l.length 0 [] pN pQ];rfl
def a3r: ∀(n:Nat) (s:pJ),s.length<=n->s.length<=(L8 (zL n s)).length/\(L8 (zL n s)=s↔Lib.validD s=true)
  | n,[],_=>by
    have:zL n []=[]:=by cases n<;>simp [zL]
    rw[this];simp [L8,Lib.validD_nil]
  |0,b::t,h=>by simp at h
  | n+1,b::t,h=>by
    have j:(b::t)≠[]:=by simp
    have E:=Lib.decodeL_le (b::t) j;have F:=Lib.decodeL_width (b::t);obtain⟨ih1,ih2⟩:=a3r n ((b::t).drop (Lib.decodeL (b::t)).2) (by rw[aON];simp only[aOe] at h|-;omega)
    have hr:L8 (zL (n+1) (b::t))=Lib.encodeRune ((Lib.decodeL (b::t)).1:Int)++L8 (zL n ((b::t).drop (Lib.decodeL (b::t)).2)):=by
      rw[zL,aOi j];rfl
    rw[hr,Lib.validD_step _ j];rw[aON] at ih1;by_cases hv:(Lib.decodeL (b::t)).1=65533/\(Lib.decodeL (b::t)).2=1
    · rw[aOd hv,hv.1]
      have e3:(Lib.encodeRune ((65533:Nat):Int)).length=3:=rfl;rw[hv.2] at ih1|-;refine⟨by rw[aOg,e3];omega,λz=>?_,λz=>by cases z⟩;have:=aOI List.length z;rw[aOg,e3] at this;omega
    have z:=Lib.encode_decode (b::t) j hv
    rw[aOi hv,z];refine⟨by rw[aOg,aO2];omega,?_⟩;rw[<-ih2];constructor
    · intro D
      exact List.append_cancel_left (D.trans (aPV _ _).symm)
    intro D
    rw[D,aPV]
def aHA (s:pJ) (z:fit s):vA s=some (Lib.validD s):=by
  have D:fit (ga s):=by
    have:=a3n s.length s;unfold fit ga at*;omega
  unfold vA;rw[aHx s z];simp only[aOc];rw[aHz (ga s) (λx j=>a3p _ _ x j) D];simp only[aOc];congr 1;have:=(a3r s.length s (aOA _)).2;rw[aOE,aOt];exact this
def BH (s:pJ):Bool:=decide ((s.length:Int)<=4000)&&Lib.validD s
def XN (s:pJ) (j:fit s):GM s=some ()/\(((s.length:Int)<=4000)&&val (vA s))=BH s:=by
  unfold GM;rw[aHA s j];exact⟨aOd (λ_=>rfl),rfl⟩
def XO (s:pJ) (j:fit s):GI s=some ():=by
  unfold fit at j;unfold GI WV;rw[aOd (λ_=>by rw[aOd pN];rfl)]
def xR {p:Prop}{α:Type}{v:α}:p->(some v).isSome=true:=λ_=>rfl
def XP {ρ:Type}{f:Int->Option (Int⊕(Unit⊕ρ))}{n:Nat}(p:Nat->Bool) (g:Nat->ρ)
    (hf: ∀(i:Nat),i<n->f i=if p i=true then some (.inr (.inr (g i))) else some (.inl (i+1)))
    (j:f n=some (.inr (.inl ()))):rC f 0=some (y4 (λk=> .inr (g k)) (.inl ()) ((List.range n).findIdx? p)):=by
  refine yQ (l:=List.range n) p g (λi h=>?_) (by rw[List.length_range];exact j);have hi:i<n:=by rw[List.length_range] at h;exact h
  rw[List.getElem_range];exact hf i hi
def a3s (a b:pJ):(!Op.bytesLess a b)=(Op.bytesLess b a||decide (b=a)):=by
  rw[bytesLess_eq,bytesLess_eq,aOE];simp only[aO1,aO6,aPE,aOt];constructor
  · intro h
    exact(List.le_iff_lt_or_eq.1 (List.not_lt.1 h))
  rintro(h|h)
  .exact List.lt_asymm h
  rw[h];exact List.lt_irrefl _
def XQ {n:Nat}{p:Nat->Bool}{b:Bool}:sK (some (y4 (λ_=>Sum.inr false) (Sum.inl ()) ((List.range n).findIdx? p))) (λ_:Unit=>some b)=some (!((List.range n).any p)&&b):=by
  rw[BG];cases(List.range n).any p<;>rfl
def EV (l:pK):Bool:=decide ((l.length:Int)<=20)&& !(l.any λx=> !BH x)
def yf {α:Type}{l:List α}{p:α->Bool}{b:Bool}:sK (some (y4 (λ_=>Sum.inr false) (Sum.inl ()) (l.findIdx? p))) (λ_:Unit=>some b)=some (!(l.any p)&&b):=by
  rw[BG];cases l.any p<;>rfl
def a3t (l:pK) (z:fit l) (j: ∀x∈l,fit x):C6 l=some (EV l):=by
  unfold fit at z
  have h:=yQ (f:=PL l) (l:=l) (λx=> !BH x) (λ_=>false) (λi h=>by
    obtain⟨E,D⟩:=XN l[i] (j _ (aOm h));unfold PL;rw[aOd (sG h),aOd (rP h),uX (t:= .str) h,E,aOc,D,aOd (s5 pN)]) (by
    unfold PL;rw[aOi (sL _)])
  unfold C6;rw[h,yf,EV,Bool.and_comm]
def aHB (l:pK) (z:fit l) (j: ∀x∈l,fit x):DA l=some (l.any λx=> !BH x):=by
  unfold fit at z
  have h:=yQ (f:=P2 l) (l:=l) (λx=> !BH x) (λk=>(k:Int)) (λi h=>by
    have D:=XO l[i] (j _ (aOm h));unfold P2 XF;rw[aOd (sG h),aOd (rP h),uX (t:= .str) h,D,aOc,aOc,aOd (s5 pN)];rfl) (by
    unfold P2;rw[aOi (sL _)])
  unfold DA XH;rw[h,fv];show some (decide _)=_;rw[a3i]
def a3u (l:pK) (z:fit l) (j: ∀x∈l,fit x):P6 l=some ()/\(((l.length:Int)<=20)&&(!(val (DA l))))=EV l:=by
  unfold P6;rw[aHB l z j];exact⟨aOd xR,rfl⟩
def yg (l:pK) (i:Nat):Bool:=(!L6 (l.getD i []))||(decide (0<i)&& !Op.bytesLess (l.getD (i-1) []) (l.getD i []))
def UJ (l:pK):Bool:= !((List.range l.length).any (yg l))&&decide ((l.length:Int)<=20)
def a3v {l:pK}{i:Nat}:qI .str l (i:Int)=l.getD i []:=by unfold qI;rw[aOV];rfl
def a3w {l:pK}{i:Nat}:qI .str l ((i:Int)-1)=l.getD (i-1) []:=by
  unfold qI;rw[show ((i:Int)-1).toNat=i-1 by omega];rfl
def gc {i:Nat}:decide ((0:Int)<(i:Int))=decide (0<i):=by simp
def aHC (l:pK) (z:fit l):K1 l=some (UJ l):=by
  unfold fit at z
  have h:=XP (f:=NF l) (n:=l.length) (yg l) (λ_=>false) (λi h=>by
    unfold NF;rw[aOd (sG h),aOd (rP h),a3v,a3w,a3h,aOc,gc]
    have h0: ∀q:Bool,((q==false)&&(decide (0<i)==true))=true->0<i:=λq j=>by
      simp only[aOo,aP2,aOt] at j;exact j.2
    rw[aOd (λj=>by have:=h0 _ j;unfold qH;omega),aOd (λj=>by have:=h0 _ j;omega),aOd (s5 pN)];rfl) (by
    unfold NF;rw[aOi (sL _)])
  unfold K1;rw[h,XQ];rfl
def aHD (l:pK) (D:fit l) (z: ∀x∈l,fit x):GH l=some (UJ l):=by
  unfold fit at D
  have h:=XP (f:=O5 l) (n:=l.length) (yg l) (λ_=>false) (λi h=>by
    unfold O5;have hf:fit (l.getD i []):=by rw[aOF,aOn h];exact z _ (aOm h)
    rw[aOd (sG h),aOd (rP h),a3v,a3w,a3f _ hf,aOc,gc]
    have h0: ∀q:Bool,((q==false)&&(decide (0<i)==true))=true->0<i:=λq j=>by
      simp only[aOo,aP2,aOt] at j;exact j.2
    rw[aOd (λ_=>rP h),aOd (λj=>by have:=h0 _ j;unfold qH;omega),aOd (λj=>by have:=h0 _ j;omega),aOd (s5 pN),<-a3s];rfl) (by
    unfold O5;rw[aOi (sL _)])
  unfold GH;rw[h,XQ];rfl
abbrev fD:AW:=([],([],()))
def gd (l:List AW) (i:Nat):Bool:=((!L6 (l.getD i fD).1)||(!BH (l.getD i fD).2.1))||(decide (0<i)&& !Op.bytesLess (l.getD (i-1) fD).1 (l.getD i fD).1)
def A7 (l:List AW):Bool:= !((List.range l.length).any (gd l))&&decide ((l.length:Int)<=20)
def a3x {l:List AW}{i:Nat}:qI sP l (i:Int)=l.getD i fD:=by unfold qI;rw[aOV];rfl
def a3y {l:List AW}{i:Nat}:qI sP l ((i:Int)-1)=l.getD (i-1) fD:=by
  unfold qI;rw[show ((i:Int)-1).toNat=i-1 by omega];rfl
def XR (x:AW):Prop:=fit x.1/\fit x.2.1
def ge {α:Type}{l:List α}{i:Nat}{d:α}(h:i<l.length):l.getD i d∈l:=by
  rw[aOF,aOn h];exact aOm h
def gg {i:Nat}{q:Bool}(j:((q==false)&&(decide (0<i)==true))=true):0<i:=by
  simp only[aOo,aP2,aOt] at j;exact j.2
def a3z (l:List AW) (D:fit l) (z: ∀x∈l,XR x):I8 l=some (A7 l):=by
  unfold fit at D
  have h:=XP (f:=OU l) (n:=l.length) (gd l) (λ_=>false) (λi h=>by
    unfold OU;have hf:=z _ (ge (d:=fD) h);rw[aOd (sG h),aOd (rP h),a3x,a3y,a3h,aOc,gc,XO _ hf.2];rw[aOd xR,aOd (λj=>by have:=gg j;unfold qH;omega),aOd (λj=>by have:=gg j;omega),aOd (s5 pN)];rfl) (by
    unfold OU;rw[aOi (sL _)])
  unfold I8;rw[h,XQ];rfl
def a3A (l:List AW) (D:fit l) (z: ∀x∈l,XR x):FN l=some (A7 l):=by
  unfold fit at D
  have h:=XP (f:=PN l) (n:=l.length) (gd l) (λ_=>false) (λi h=>by
    unfold PN;have hf:=z _ (ge (d:=fD) h);obtain⟨F,E⟩:=XN _ hf.2;rw[aOd (sG h),aOd (rP h),a3x,a3y,a3f _ hf.1,aOc,gc,F,E];rw[aOd (λ_=>rP h),aOd xR,aOd (λ_=>rP h),aOd (λj=>by have:=gg j;unfold qH;omega),aOd (λj=>by have:=gg j;omega),aOd (s5 pN),<-a3s];rfl) (by
    unfold PN;rw[aOi (sL _)])
  unfold FN;rw[h,XQ];rfl
abbrev x9:=wD
structure yh (x:x9):Prop where
  id:fit x.1
  src:fit x.2.1
  tgt:fit x.2.2.1
  com:fit x.2.2.2.1/\∀y∈x.2.2.2.1,fit y
  flg:fit x.2.2.2.2.1/\∀y∈x.2.2.2.2.1,fit y
  fld:fit x.2.2.2.2.2.2.1/\∀y∈x.2.2.2.2.2.2.1,XR y
def L9 (x:x9):Bool:=
  (((((((!decide (x.1=[]))&&decide ((x.1.length:Int)<=200))&&BH x.1)&&BH x.2.1)&&BH x.2.2.1)&&EV x.2.2.2.1)&&UJ x.2.2.2.2.1)&&(decide (0<=x.2.2.2.2.2.1)&&decide (x.2.2.2.2.2.1<=4))&&A7 x.2.2.2.2.2.2.1
def aHE (x:x9) (h:yh x):P7 x=some (L9 x):=by
  obtain⟨t1,t2⟩:=a3u _ h.com.1 h.com.2;have e1:=aHC _ h.flg.1;have e2:=a3z _ h.fld.1 h.fld.2;unfold P7;rw[XO _ h.id,XO _ h.src,XO _ h.tgt,t1,t2,e1,e2];have k: ∀s:pJ,(decide ((s.length:Int)<=4000)&&Lib.validD s)=BH s:=λs=>rfl;rw[aOd xR,aOc,aOd xR,aOd xR,aOd xR,aOd xR,k,k,k];unfold L9;show (if _ then some false else some _)=_;have a1:decide ((200:Int)<(x.1.length:Int))= !decide ((x.1.length:Int)<=200):=by rw[<-decide_not];exact aPG.2 pN
  have a2:decide (x.2.2.2.2.2.1<(0:Int))= !decide ((0:Int)<=x.2.2.2.2.2.1):=by rw[<-decide_not];exact aPG.2 pN
  have a3:decide ((4:Int)<x.2.2.2.2.2.1)= !decide (x.2.2.2.2.2.1<=(4:Int)):=by rw[<-decide_not];exact aPG.2 pN
  rw[a1,a2,a3];show (if _ then some false else some (((((BH x.2.1&&BH x.2.2.1)&&EV x.2.2.2.1)&&UJ x.2.2.2.2.1))&&A7 x.2.2.2.2.2.2.1))=_;generalize decide (x.1=[])=b1;generalize decide ((x.1.length:Int)<=200)=b2;generalize BH x.1=b3;generalize BH x.2.1=b4;generalize BH x.2.2.1=b5;generalize EV x.2.2.2.1=b6;generalize UJ x.2.2.2.2.1=b7;generalize decide ((0:Int)<=x.2.2.2.2.2.1)=b8;generalize decide (x.2.2.2.2.2.1<=(4:Int))=b9;generalize A7 x.2.2.2.2.2.2.1=b10;cases b1<;>cases b2<;>cases b3<;>cases b8<;>cases b9<;>simp
def aHF (x:x9) (h:yh x):U1 x=some ()/\((((((((((!decide (x.1=([]:pJ)))&&((x.1.length:Int)<=(200:Int)))&&(((x.1.length:Int)<=(4000:Int))&&(val (vA x.1))))&&(((x.2.1.length:Int)<=(4000:Int))&&(val (vA x.2.1))))&&(((x.2.2.1.length:Int)<=(4000:Int))&&(val (vA x.2.2.1))))&&(val (C6 x.2.2.2.1)))&&(val (GH x.2.2.2.2.1)))&&((0:Int)<=x.2.2.2.2.2.1))&&(x.2.2.2.2.2.1<=(4:Int)))&&(val (FN x.2.2.2.2.2.2.1)))=L9 x:=by
  obtain⟨u1,v1⟩:=XN _ h.id;obtain⟨u2,v2⟩:=XN _ h.src;obtain⟨u3,v3⟩:=XN _ h.tgt;have e0:=a3t _ h.com.1 h.com.2;have e1:=aHD _ h.flg.1 h.flg.2;have e2:=a3A _ h.fld.1 h.fld.2;unfold U1;rw[u1,u2,u3,v1,v2,v3,e0,e1,e2];refine⟨?_,?_⟩
  .rw[aOd xR,aOd xR,aOd xR,aOd xR,aOd xR,aOd xR]
  unfold L9
  show (((((((((!_&&_)&&_)&&_)&&_)&&EV x.2.2.2.1)&&UJ x.2.2.2.2.1)&&_)&&_)&&A7 x.2.2.2.2.2.2.1)=_;simp only[Bool.and_assoc]
def sib (l:pJ) (b:UInt8):AM l (b.toNat:Int)=Lib.indexByte l b:=by
  unfold AM;rw[aOV];congr 1;simp
def Q4:pX->Int
  |some k=>k
  |none=> -1
def LA (a b:pJ):tK (a++b)=tK a++tK b:=by simp [tK]
def Q5 (a:pJ):tU (tK a)=a:=by
  unfold tU tK;rw[List.map_map]
  conv=>rhs;rw[<-List.map_id a]
  congr 1;funext b;simp
def XS {x:pU}{c:Int}(j:x.length<=10000000000000):GD (x,()) c=some ():=by
  unfold GD;exact aOd (by simp only[List.length_singleton,aQd];omega)
def aHH {x:pU}{t:pJ}(j:x.length<=10000000000000) (z:t.length<=4000000000):HY (x,()) t=some ():=by
  unfold HY;exact aOd (by dsimp only;omega)
def a3B (x y:UInt8):(x==y)=decide (y=x):=by
  by_cases h:y=x
  .subst h;rw[beq_self_eq_true,aO4 rfl]
  rw[decide_eq_false h,beq_eq_false_iff_ne];exact λe=>h e.symm
def a3C {o:pX}:(if (Q4 o== -1)=true then(-1:Int) else Q4 o+1)=Q4 (o.map (· +1)):=by
  cases o with
  |none=>rfl
  | some k=>
    show (if ((k:Int)== -1)=true then(-1:Int) else(k:Int)+1)=((k+1:Nat):Int);rw[aOi (by rw[aP2];omega)];rfl
abbrev C4:=pJ×(pK×(List AW×(List wD×Unit)))
def a3D {v:Ty}(a b:pJ) (y:v.den): ∀l:List (pJ×v.den),sC .str v (rN .str v a y l) b=if b=a then y else sC .str v l b
  | []=>by
    show (if decide (b=a)=true then y else v.zero)=if b=a then y else v.zero;by_cases h:b=a<;>simp [h]
  | (x,z)::r=>by
    have ih:=a3D a b y r;show sC .str v (if decide (a=x)=true then(a,y)::r else(x,z)::rN .str v a y r) b=if b=a then y else(if decide (b=x)=true then z else sC .str v r b);by_cases h:a=x
    · rw[aOd (aO4 h)]
      show (if decide (b=a)=true then y else sC .str v r b)=_;by_cases hb:b=a
      .rw[aOd (aO4 hb),aOd hb]
      rw[aOi aQo,aOi hb,aOi (by rw[<-h];simpa using hb)]
    rw[aOi aQe]
    show (if decide (b=x)=true then z else sC .str v (rN .str v a y r) b)=_;rw[ih];by_cases hb:b=a
    .rw[aOd hb,aOd hb,aOi (by rw[hb];simpa using h)]
    rw[aOi hb,aOi hb]
def yi (es:List wD) (x:pJ):Int×Bool:=y4 (λk=>((k:Int),true)) ((0:Int),false) (es.findIdx? λy=>decide (y.1=x))
def aHI (c:C4) (x:pJ) (j:c.2.2.2.1.length<=5000):SJ c x=some (yi c.2.2.2.1 x):=by
  have h:=yQ (f:=NC c x) (l:=c.2.2.2.1) (λy=>decide (y.1=x)) (λk=>((k:Int),true)) (λi h=>by
    unfold NC;rw[aOd (sG h),aOd (rP h),uX (t:=tJ) h,aOd (s5 pN)]) (by
    unfold NC;rw[aOi (sL _)])
  unfold SJ;rw[h,fv];rfl
def yj (ids:pS) (es:List wD):Prop:= ∀x,sC .str .bool ids x=es.any λy=>decide (y.1=x)
def aHJ {ids:pS}{es:List wD}(h:yj ids es) (e:wD) (x:pJ) (z:e.1=x):yj (rN .str .bool x true ids) (es++[e]):=by
  intro y;rw[a3D,List.any_append,<-h y];by_cases j:y=x
  .rw[aOd j];simp [z,j]
  rw[aOi j]
  have:decide (e.1=y)=false:=by rw[z];simpa using λD=>j D.symm
  simp [this]
abbrev eD:x9:=([],([],([],([],([],(0,([],())))))))
def LB (es:List x9) (i:Nat):Bool:=((es.take i).any λy=>decide (y.1=(es.getD i eD).1))|| !L9 (es.getD i eD)
def yS (c:C4):Bool:=((IK c.1&&EV c.2.1)&&A7 c.2.2.1)&&(decide ((c.2.2.2.1.length:Int)<=1000)&& !((List.range c.2.2.2.1.length).any (LB c.2.2.2.1)))
def a3E {l:List x9}{i:Nat}:qI tJ l (i:Int)=l.getD i eD:=by unfold qI;rw[aOV];rfl
structure XT (c:C4):Prop where
  tag:fit c.1
  com:fit c.2.1/\∀y∈c.2.1,fit y
  fld:fit c.2.2.1/\∀y∈c.2.2.1,XR y
  len:c.2.2.2.1.length<=5000
  ent: ∀x∈c.2.2.2.1,yh x
def aHK {α:Type}{l:List α}{i:Nat}{d:α}(h:i<l.length):l.take (i+1)=l.take i++[l.getD i d]:=by
  rw[List.take_add_one,aOn h,aOF,aOn h];rfl
def a3F {c:C4}(j:XT c): ∀(n i:Nat) (m:pS),i+n=c.2.2.2.1.length->yj m (c.2.2.2.1.take i)->
    rC (I9 c) ((i:Int),m)=some (if (List.range' i n).any (LB c.2.2.2.1)=true then .inr false else .inl ())
  | 0,i,m,hi,_=>by
    have:i=c.2.2.2.1.length:=by omega
    subst this;refine xY ?_;unfold I9;dsimp only;rw[aOi (sL _)];rfl
  | n+1,i,m,hi,hm=>by
    have h:i<c.2.2.2.1.length:=by omega
    have z:=j.ent _ (ge (d:=eD) h);have D:=j.len
    have hst:I9 c ((i:Int),m)=if LB c.2.2.2.1 i=true then some (.inr (.inr false)) else some (.inl (((i+1:Nat):Int),rN .str .bool (c.2.2.2.1.getD i eD).1 true m)):=by
      unfold I9;dsimp only;rw[aOd (sG h),aOd (rP h),a3E,hm,aHE _ z,aOd xR,aOd (s5 pN)];rfl
    rw[aQa,List.any_cons];by_cases hb:LB c.2.2.2.1 i=true
    · rw[aOd hb] at hst
      rw[hb,Bool.true_or,aOd rfl];exact xY hst
    rw[aOi hb] at hst
    rw[AJ hst,a3F j n (i+1) _ pN (by rw[aHK (d:=eD) h];exact aHJ hm _ _ rfl)];simp only[aP0] at hb;rw[hb,Bool.false_or]
def aHL {c:C4}(j:XT c):TR c=some (yS c):=by
  obtain⟨t1,t2⟩:=a3u _ j.com.1 j.com.2;have e2:=a3z _ j.fld.1 j.fld.2;have z:=a3F j c.2.2.2.1.length 0 [] pN (λx=>by rfl);rw[<-List.range_eq_range'] at z;have D:rC (I9 c) ((0:Int),[])=_:=z;have a1:decide ((1000:Int)<(c.2.2.2.1.length:Int))= !decide ((c.2.2.2.1.length:Int)<=1000):=by rw[<-decide_not];exact aPG.2 pN
  unfold TR;rw[aHn,aOc,t1,t2,e2,aOd xR,aOd xR,D,a1];unfold yS;show (if (((!IK c.1)||(!EV c.2.1))||(!A7 c.2.2.1)||_)=true then some false else _)=_
  generalize IK c.1=b1;generalize EV c.2.1=b2;generalize A7 c.2.2.1=b3;generalize decide ((c.2.2.2.1.length:Int)<=1000)=b4;generalize (List.range c.2.2.2.1.length).any (LB c.2.2.2.1)=b5;cases b1<;>cases b2<;>cases b3<;>cases b4<;>cases b5<;>rfl
def aHM {es:List x9}{i:Nat}(h:i<es.length):decide ((yi es (es.getD i eD).1).1=(i:Int))= !((es.take i).any λy=>decide (y.1=(es.getD i eD).1)):=by
  have G:es.getD i eD=es[i]:=by rw[aOF,aOn h];rfl
  unfold yi;cases hf:es.findIdx? λy=>decide (y.1=(es.getD i eD).1) with
  | none=>
    have:=List.findIdx?_eq_none_iff.1 hf es[i] (aOm h);rw[G] at this;simp at this
  | some k=>
    obtain⟨hk,I,F⟩:=List.findIdx?_eq_some_iff_getElem.1 hf;simp only[aOt,aO6] at I F;show decide ((k:Int)=(i:Int))=_;rw[aOE,aOt,aO1,aP6]
    have M:k<=i:=by
      rcases aPs i k with z|D
      .exact absurd (aOI Prod.fst G.symm) (F i z)
      exact D
    constructor
    · intro O x hxm
      obtain⟨j,K,rfl⟩:=aPD hxm;rw[aO2] at K;rw[List.getElem_take];have:=F j pN;simpa using this
    intro E
    rcases aPs k i with z|D
    · have:=E es[k] (by rw[aPz];exact⟨k,pN,rfl⟩)
      simp [I] at this
    omega
def aHN (c:C4) (j:XT c):U0 c=some ((IK c.1&&EV c.2.1)&&A7 c.2.2.1):=by
  unfold U0;rw[aHl _ j.tag,aOc,a3t _ j.com.1 j.com.2,a3A _ j.fld.1 j.fld.2,aOd xR,aOd xR];rfl
def aHO {c:C4}(j:XT c):U4 c=some (yS c):=by
  have z:=j.len
  have h:=XP (f:=PU c) (n:=c.2.2.2.1.length) (LB c.2.2.2.1) (λ_=>false) (λi h=>by
    have D:=j.ent _ (ge (d:=eD) h);obtain⟨u,v⟩:=aHF _ D;unfold PU;rw[aOd (sG h),aOd (rP h),a3E,aHI c _ z,aOc,aOd (λ_=>rP h),u,aOd xR,v,aHM h,aOd (s5 pN),Bool.not_not];rfl) (by
    unfold PU;rw[aOi (sL _)])
  have a1:decide ((1000:Int)<(c.2.2.2.1.length:Int))= !decide ((c.2.2.2.1.length:Int)<=1000):=by rw[<-decide_not];exact aPG.2 pN
  unfold U4;rw[aHN c j,aOc,h,XQ,a1];unfold yS;generalize ((IK c.1&&EV c.2.1)&&A7 c.2.2.1)=b1;generalize decide ((c.2.2.2.1.length:Int)<=1000)=b2;generalize (List.range c.2.2.2.1.length).any (LB c.2.2.2.1)=b3;cases b1<;>cases b2<;>cases b3<;>rfl
def uK:Nat:=140737488351232
def a3G {l:pK}(F:l.length<=uK) (j: ∀x∈l,x.length<=uK): ∀(m i:Nat) (n:Int),i+m=l.length->0<=n->n<=1125899906842624->
    ∃r,rC (G9 l) (n,(i:Int))=some r/\n<=r/\r<=1125899906842624/\(r<1099511627776->∀x∈l.drop i,n+(x.length:Int)<=r)
  | 0,i,n,hi,h0,z=>by
    have:i=l.length:=by omega
    subst this;refine⟨n,xY ?_,aPf _,z,λ_ x j=>by rw[aOQ] at j;cases j⟩;unfold G9;dsimp only;rw[aOi pP]
  | m+1,i,n,hi,h0,z=>by
    have h:i<l.length:=by omega
    by_cases E:n<1099511627776
    · have D:=j _ (aOm h)
      unfold uK at D F
      have hst:G9 l (n,(i:Int))=some (.inl (n+(l[i].length:Int),((i+1:Nat):Int))):=by
        unfold G9;dsimp only;rw[aOd (by simp [h,E]),aOd (rP h),uX (t:= .str) h,aOd aQF,aOd aQF];rfl
      obtain⟨r,e,e1,e2,e3⟩:=a3G (by unfold uK;exact F) j m (i+1) (n+(l[i].length:Int)) pN pN pN;refine⟨r,by rw[AJ hst,e],pN,e2,λhr x hxm=>?_⟩;rw[aOx h] at hxm;rcases aOv.1 hxm with rfl|hxm
      .omega
      have:=e3 hr x hxm
      omega
    refine⟨n,xY ?_,aPf _,z,λhr=>by omega⟩
    unfold G9;dsimp only;rw[aOi (by simp [E])]
def a3H {l:List AW}(F:l.length<=uK) (j: ∀x∈l,x.1.length<=uK/\x.2.1.length<=uK): ∀(m i:Nat) (n:Int),i+m=l.length->0<=n->n<=1125899906842624->
    ∃r,rC (GB l) (n,(i:Int))=some r/\n<=r/\r<=1125899906842624/\(r<1099511627776->∀x∈l.drop i,n+(x.1.length:Int)+(x.2.1.length:Int)<=r)
  | 0,i,n,hi,h0,z=>by
    have:i=l.length:=by omega
    subst this;refine⟨n,xY ?_,aPf _,z,λ_ x j=>by rw[aOQ] at j;cases j⟩;unfold GB;dsimp only;rw[aOi pP]
  | m+1,i,n,hi,h0,z=>by
    have h:i<l.length:=by omega
    by_cases E:n<1099511627776
    · have D:=j _ (aOm h)
      unfold uK at D F
      have hst:GB l (n,(i:Int))=some (.inl (n+(l[i].1.length:Int)+(l[i].2.1.length:Int),((i+1:Nat):Int))):=by
        unfold GB;dsimp only;rw[aOd (by simp [h,E]),aOd (rP h),uX (t:= .pair .str (.pair .str .unit)) h,aOd aQF,aOd (rP h),aOd aQF,aOd aQF];rfl
      obtain⟨r,e,e1,e2,e3⟩:=a3H (by unfold uK;exact F) j m (i+1) (n+(l[i].1.length:Int)+(l[i].2.1.length:Int)) pN pN pN;refine⟨r,by rw[AJ hst,e],pN,e2,λhr x hxm=>?_⟩;rw[aOx h] at hxm;rcases aOv.1 hxm with rfl|hxm
      .omega
      have:=e3 hr x hxm
      omega
    refine⟨n,xY ?_,aPf _,z,λhr=>by omega⟩
    unfold GB;dsimp only;rw[aOi (by simp [E])]
def IM (l:pK):Prop:=l.length<=6000/\∀x∈l,x.length<=6000
def gh (l:List AW):Prop:=l.length<=6000/\∀x∈l,x.1.length<=6000/\x.2.1.length<=6000
def yk {l:pK}{f:List AW}(D:l.length<=uK) (F: ∀x∈l,x.length<=uK) (hf:f.length<=uK) (E: ∀x∈f,x.1.length<=uK/\x.2.1.length<=uK):
    ∃r,A6 l f=some r/\0<=r/\r<=1125899906842624/\(r<=6000->IM l/\gh f):=by
  have j:=D;have z:=hf;unfold uK at j z;obtain⟨r,e,e1,e2,e3⟩:=a3G D F l.length 0 ((l.length:Int)+(f.length:Int)) pN pN pN;obtain⟨r',k,k1,k2,k3⟩:=a3H hf E f.length 0 r pN pN e2;have e':rC (G9 l) ((l.length:Int)+(f.length:Int),(0:Int))=some r:=e;have k':rC (GB f) (r,(0:Int))=some r':=k;refine⟨r',?_,pN,k2,λhr=>⟨⟨pN,λx hxm=>?_⟩,⟨pN,λx hxm=>?_⟩⟩⟩
  · unfold A6
    rw[aOd aQF,e'];unfold rD;rw[aOc,k',aOc]
  · have:=e3 pN x (by rw[aOP];exact hxm)
    omega
  have:=k3 pN x (by rw[aOP];exact hxm)
  omega
structure yl (x:x9):Prop where
  id:x.1.length<=uK
  src:x.2.1.length<=uK
  tgt:x.2.2.1.length<=uK
  com:x.2.2.2.1.length<=uK/\∀y∈x.2.2.2.1,y.length<=uK
  flg:x.2.2.2.2.1.length<=uK/\∀y∈x.2.2.2.2.1,y.length<=uK
  fld:x.2.2.2.2.2.2.1.length<=uK/\∀y∈x.2.2.2.2.2.2.1,y.1.length<=uK/\y.2.1.length<=uK
structure IN (x:x9):Prop where
  id:x.1.length<=6000
  src:x.2.1.length<=6000
  tgt:x.2.2.1.length<=6000
  com:IM x.2.2.2.1
  flg:IM x.2.2.2.2.1
  fld:gh x.2.2.2.2.2.2.1
def aHP (x:x9) (h:yl x): ∃b:Bool,SK x=some ()/\
    (((((x.1.length:Int)+(x.2.1.length:Int))+(x.2.2.1.length:Int))<=(6000:Int))&&(((val (A6 x.2.2.2.1 x.2.2.2.2.2.2.1))+(val (A6 x.2.2.2.2.1 ([]:List wZ))))<=(6000:Int)))=b/\(b=true->IN x):=by
  obtain⟨r,e,e1,e2,e3⟩:=yk h.com.1 h.com.2 h.fld.1 h.fld.2;obtain⟨r',k,k1,k2,k3⟩:=yk (f:=[]) h.flg.1 h.flg.2 (by unfold uK;simp) (λx z=>by cases z);have a1:=h.id;have a2:=h.src;have a3:=h.tgt;unfold uK at a1 a2 a3;refine⟨_,?_,rfl,λhb=>?_⟩
  · unfold SK
    rw[e,k,aOd aQF,aOd aQF,aOd xR,aOd xR,aOd (λ_=>by show qH (r+r');unfold qH;omega)]
  rw[e,k] at hb
  simp only[aOo,aOt] at hb;obtain⟨D,j⟩:=hb;have j:r+r'<=6000:=j;obtain⟨p,q⟩:=e3 pN;obtain⟨p',_⟩:=k3 pN;exact⟨pN,pN,pN,p,p',q⟩
structure UK (c:C4):Prop where
  tag:c.1.length<=uK
  com:c.2.1.length<=uK/\∀y∈c.2.1,y.length<=uK
  fld:c.2.2.1.length<=uK/\∀y∈c.2.2.1,y.1.length<=uK/\y.2.1.length<=uK
  ent: ∀x∈c.2.2.2.1,yl x
structure ym (c:C4):Prop where
  tag:c.1.length<=100
  com:IM c.2.1
  fld:gh c.2.2.1
  len:c.2.2.2.1.length<=1000
  ent: ∀x∈c.2.2.2.1,IN x
def a3I {c:C4}(z:UK c) (D:c.2.2.2.1.length<=12): ∀(n i:Nat),i+n=c.2.2.2.1.length->
    ∃r,rC (I2 c) (i:Int)=some r/\(r= .inr false\/(r= .inl ()/\∀x∈c.2.2.2.1.drop i,IN x))
  | 0,i,hi=>by
    have:i=c.2.2.2.1.length:=by omega
    subst this;refine⟨.inl (),xY ?_,.inr ⟨rfl,λx j=>by rw[aOQ] at j;cases j⟩⟩;unfold I2;rw[aOi (sL _)]
  | n+1,i,hi=>by
    have h:i<c.2.2.2.1.length:=by omega
    obtain⟨b,e1,e2,e3⟩:=aHP _ (z.ent _ (aOm h))
    have hst:I2 c (i:Int)=if (!b)=true then some (.inr (.inr false)) else some (.inl ((i+1:Nat):Int)):=by
      unfold I2;rw[aOd (sG h),aOd (rP h),uX (t:=tJ) h,e1,aOc,e2,aOd (s5 pN)];rfl
    cases b with
    |false=>exact⟨_,xY hst,.inl rfl⟩
    | true=>
      obtain⟨r,k,k2⟩:=a3I z D n (i+1) pN;refine⟨r,by rw[AJ hst,k],k2.imp id λ⟨a,b⟩=>⟨a,λx j=>?_⟩⟩;rw[aOx h] at j;rcases aOv.1 j with rfl|j
      .exact e3 rfl
      exact b x j
def aHQ {c:C4}(j:UK c): ∃b,SX c=some b/\(b=true->ym c):=by
  obtain⟨r,e,e1,e2,e3⟩:=yk j.com.1 j.com.2 j.fld.1 j.fld.2;unfold SX;rw[e,aOd xR];by_cases hb:((((100:Int)<(c.1.length:Int))||((6000:Int)<(val (some r))))||((12:Int)<(c.2.2.2.1.length:Int)))=true
  · rw[aOd hb]
    exact⟨false,rfl,λh=>by cases h⟩
  rw[aOi hb]
  simp only[aPE,aOt] at hb;have hr: ¬(6000:Int)<r:=λh=>hb (.inl (.inr h));obtain⟨p,q⟩:=e3 pN;obtain⟨r',k,k2⟩:=a3I j pN c.2.2.2.1.length 0 pN;have k':rC (I2 c) (0:Int)=some r':=k;rw[k'];rcases k2 with rfl|⟨rfl,k3⟩
  .exact⟨false,rfl,λh=>by cases h⟩
  exact⟨true,rfl,λ_=>⟨pN,p,q,pN,by rw[aOP] at k3;exact k3⟩⟩
def UL {l:pJ}(h:l.length<=6000):fit l:=by unfold fit;omega
def yn {l:pK}(h:IM l):fit l/\∀y∈l,fit y:=⟨by have:=h.1;unfold fit;omega,λy j=>UL (h.2 y j)⟩
def a3J {l:List AW}(h:gh l):fit l/\∀y∈l,XR y:=⟨by have:=h.1;unfold fit;omega,λy j=>⟨UL (h.2 y j).1,UL (h.2 y j).2⟩⟩
def a3K {σ ρ α:Type}{f:σ->Option (σ⊕ρ)}(st:Int->List α->σ) (out:List α->ρ) {n M B:Nat}(g:Nat->List α) (j: ∀i,i<n->(g i).length<=B)
    (hf: ∀(i:Nat) s,i<n->s.length+B<=M->f (st i s)=some (.inl (st ((i:Int)+1) (s++g i)))) (z: ∀s,f (st n s)=some (.inr (out s))):
    ∀(k i:Nat) (s:List α),i+k=n->s.length+k*B<=M->rC f (st i s)=some (out (s++(List.range' i k).flatMap g))
  | 0,i,s,hi,_=>by
    have:i=n:=by omega
    subst this;rw[xY (z s)];simp
  | k+1,i,s,hi,D=>by
    rw[aPd] at D;have E:=j i pN;rw[AJ (hf i s pN pN),show ((i:Int)+1)=((i+1:Nat):Int) by omega,a3K st out g j hf z k (i+1) (s++g i) pN aQK,aQa,aO8,aOk]
def a3L {α:Type}{g:Nat->List α}{B:Nat}: ∀(k i:Nat),(∀j,i<=j->j<i+k->(g j).length<=B)->((List.range' i k).flatMap g).length<=k*B
  |0,i,_=>by simp
  | k+1,i,h=>by
    rw[aQa,aO8,aOg,aPd];have D:=a3L k (i+1) λj D z=>h j pN pN;have z:=h i pN pN;omega
def a3M {σ ρ α:Type}{f:σ->Option (σ⊕ρ)}(st:Int->List α->σ) (out:List α->ρ) {n M B:Nat}(g:Nat->List α) (j: ∀i,i<n->(g i).length<=B) (s:List α) (D:s.length+n*B<=M)
    (hf: ∀(i:Nat) s,i<n->s.length+B<=M->f (st i s)=some (.inl (st ((i:Int)+1) (s++g i)))) (z: ∀s,f (st n s)=some (.inr (out s))):
    rC f (st 0 s)=some (out (s++(List.range' 0 n).flatMap g)):=a3K st out g j hf z n 0 s pN D
def A8 {α β:Type}{l:List α}{h:α->List β}{B:Nat}(hb: ∀x∈l,(h x).length<=B):(l.flatMap h).length<=l.length*B:=by
  induction l with
  |nil=>simp
  | cons x l ih=>
    rw[aO8,aOg,aOe,aPd];have D:=hb x aOz;have z:=ih λy j=>hb y (aOu _ j);omega
def Q6 (n b:Nat) (first:Bool):pJ:=(O6 (n:Int) (b:Int) first).getD []
def XU (n:Nat) (s:pJ) (i:Nat):pJ:=Q6 n (s.getD i 0).toNat (decide (i=0))
def UM (n:Nat) (s:pJ):pJ:=(List.range' 0 s.length).flatMap (XU n s)
def a3N {s:pJ}{i:Nat}:r7 s (i:Int)=((s.getD i 0).toNat:Int):=by unfold r7;rw[aOV]
def a3O {i:Nat}:decide ((i:Int)=0)=decide (i=0):=aPG.2 pN
def a3P {l:pY}{g:Nat->pJ}:l.flatMap (λi=>tK (g i))=tK (l.flatMap g):=by
  induction l with
  |nil=>rfl
  |cons x l ih=>rw[aO8,aO8,LA,ih]
def xS (l:pJ):(tK l).length=l.length:=by simp [tK]
def LC (c:Int):Bool:=decide (c=123)||decide (c=125)||decide (c=60)||decide (c=62)||decide (c=35)||decide (c=92)
def yo (c:Int):Bool:=(decide (97<=c)&&decide (c<=122))||(decide (65<=c)&&decide (c<=90))||(decide (48<=c)&&decide (c<=57))
def gi (c:Int):Bool:=yo c||decide (c=95)||decide (c=45)
def a3Q (c:Int):Bool:=gi c||decide (c=46)||decide (c=61)
def UN (c:Int):Bool:=decide (97<=c)&&decide (c<=122)
def uI (c:UInt8):Bool:=LC c.toNat
def sV (c:UInt8):Bool:=gi c.toNat
def xT (c:UInt8):Bool:=a3Q c.toNat
def uT:pJ->Bool
 |[]=>false
 |b::t=>decide (t.length+1<=40)&&UN b.toNat&&(b::t).all sV
def GR {α:Type}(p:α->Bool) (l:List α):(l.any λb=> !p b)= !(l.all p):=by simp [List.not_all_eq_any_not]
def XV (b:UInt8) (t:pJ):uT (b::t)=(decide (t.length+1<=40)&&UN b.toNat&&(b::t).all sV):=rfl
def yp (c:Int):K5 c=LC c:=by
 unfold K5 LC
 repeat' split
 all_goals simp_all
def aHR (s:pJ) (j:fit s):rC (KM s) 0=some (if s.all sV=true then .inl () else .inr false):=by
 unfold fit at j;have h:=yQ (f:=KM s) (l:=s) (λb=> !sV b) (λ_=>false) (λi h=>by
  unfold KM;rw[aOd (sG h),aOd (rP h),wJ h,aOd (s5 pN)];rfl) (by
  unfold KM;rw[aOi (sL _)])
 rw[h,BG,GR];cases s.all sV<;>rfl
def LD (s:pJ) (z:fit s):vW s=some (uT s):=by
 unfold vW;rw[aHR s z];cases s with
 |nil=>rfl
 |cons b t=>
  have j:r7 (b::t) (0:Int)=(b.toNat:Int):=wJ (i:=0) pP;by_cases ha:(b::t).all sV=true
  .rw[aOd ha];show (if _ then _ else none:Option Bool)=_;rw[aOd (λ_=>⟨aPf 0,by simp only[aOe];omega⟩),j,XV,ha];have E:decide ((1:Int)<=((b::t).length:Int))=true:=by simp;omega
   have D:decide (((b::t).length:Int)<=40)=decide (t.length+1<=40):=by
    rw[aOE];simp;omega
   rw[E,D];simp [UN]
  rw[aOi ha,XV];simp only[aP0] at ha;rw[ha,Bool.and_false];rfl
def Q7 (s:pJ) (E:fit s):AS s=some (uT s):=by
 unfold fit at E;unfold AS;cases s with
 |nil=>simp [uT]
 |cons b t=>
  have D:r7 (b::t) (0:Int)=(b.toNat:Int):=wJ (i:=0) pP;rw[aOd (λ_=>⟨aPf 0,by simp only[aOe];omega⟩),aOd (λ_=>⟨aPf 0,by simp only[aOe];omega⟩),D];have h:=yQ (f:=OF (b::t)) (l:=b::t) (λb=> !sV b) (λ_=>false) (λi h=>by
   unfold OF;rw[aOd (sG h),aOd (rP h),aOd (λ_=>rP h),aOd (λ_=>rP h),wJ h,aOd (s5 pN)];congr 1;rw[aOE];simp only[sV,gi,yo];generalize ((b::t)[i].toNat:Int)=c;simp<;>omega) (by
   unfold OF;rw[aOi (sL _)])
  have z:=GR sV (b::t);by_cases j:(decide (t.length+1<=40)&&UN b.toNat)=true
  .rw[aOi (by
    simp only[aOo,aOt,UN] at j;simp;omega),h,BG,z,XV,j]
   cases(b::t).all sV<;>rfl
  rw[aOd (by
   simp only[aOo,aOt,UN] at j;simp;omega),XV]
  simp only[aP0] at j;rw[j];rfl
def s0 (p:UInt8->Bool):pJ->Nat
 |[]=>0
 |c::r=>if p c then s0 p r+1 else 0
def GS (p:UInt8->Bool): ∀s:pJ,s0 p s<=s.length
 |[]=>aOA _
 |c::r=>by
  unfold s0;have:=GS p r;split<;>simp<;>omega
def gj (p:UInt8->Bool): ∀s:pJ,(s.findIdx? λb=> !p b)=if s0 p s<s.length then some (s0 p s) else none
 |[]=>rfl
 |c::r=>by
  rw[aPu];unfold s0;cases hp:p c with
  |true=>
   simp only[Bool.not_true,aPl,aOT,aPq,aOe];rw[gj p r];by_cases h:s0 p r<r.length
   .rw[aOd h,aOd pN];rfl
   .rw[aOi h,aOi pN];rfl
  |false=>simp
def aHS (s:pJ) (z:fit s):T4 s=some ((s0 xT s:Nat):Int):=by
 unfold fit at z;have h:=yQ (f:=OC s) (l:=s) (λb=> !xT b) (λk=>(k:Int)) (λi h=>by
  unfold OC;rw[aOd (sG h),aOd (rP h),aOd (λ_=>rP h),aOd (λ_=>rP h),aOd (λ_=>rP h),aOd (λ_=>rP h),wJ h,aOd (s5 pN)];congr 1;rw[aOE];simp only[xT,a3Q,gi,yo];generalize (s[i].toNat:Int)=c;simp<;>omega) (by
  unfold OC;rw[aOi (sL _)])
 unfold T4;rw[h,gj];have:=GS xT s;by_cases j:s0 xT s<s.length
 .rw[aOd j];rfl
 rw[aOi j];show some (s.length:Int)=_;rw[show s0 xT s=s.length by omega]
def gm {f:Int->Option (Int⊕Int)}{s:pJ}(p:UInt8->Bool) (hf: ∀(i:Nat) (h:i<s.length),f i=if p s[i]=true then some (.inl (i+1)) else some (.inr i)) (D:f s.length=some (.inr s.length)):
  ∀(n j:Nat),j+n=s.length->rC f j=some ((j+s0 p (s.drop j):Nat):Int)
 |0,j,E=>by
  have:j=s.length:=by omega
  subst this;rw[aOQ,sZ,D];rfl
 |n+1,j,E=>by
  have z:j<s.length:=by omega
  rw[sZ,hf j z,aOx z];unfold s0;by_cases hp:p s[j]=true
  .rw[aOd hp,aOd hp];show rC f ((j:Int)+1)=_;have:=gm p hf D n (j+1) pN;rw[show ((j:Int)+1)=((j+1:Nat):Int) by omega,this];congr 2;omega
  rw[aOi hp,aOi hp];rfl
def aHT (s:pJ) (z:fit s) (j:Nat) (D:j<=s.length):rC (P8 s) j=some ((j+s0 xT (s.drop j):Nat):Int):=by
 unfold fit at z;refine gm xT (λi h=>?_) ?_ (s.length-j) j pN
 .unfold P8;rw[aOd (λ_=>rP h),wJ h,aOd (s5 pN),sG h];rfl
 unfold P8;rw[aOd (λh=>absurd h pP),aOi pP]
def aHU (s:pJ) (z:fit s) (j:Nat) (D:j<=s.length):rC (OY s) j=some ((j+s0 sV (s.drop j):Nat):Int):=by
 unfold fit at z;refine gm sV (λi h=>?_) ?_ (s.length-j) j pN
 .unfold OY;rw[aOd (λ_=>rP h),wJ h,aOd (s5 pN),sG h];rfl
 unfold OY;rw[aOd (λh=>absurd h pP),aOi pP]
def uP:pJ->Nat
 |[]=>0
 |[c]=>if uI c=true then 0 else 1
 |c::d::r=>if uI c=true then(if c=92/\uI d=true then uP r+2 else 0) else uP (d::r)+1
def LF: ∀s:pJ,uP s<=s.length
 |[]=>aOA _
 |[c]=>by
  unfold uP;split
  .exact aPL _
  .exact aOA _
 |c::d::r=>by
  unfold uP;have z:=LF r;have j:=LF (d::r);simp only[aOe] at j|-;split
  .split
   .omega
   omega
  omega
def gn {c:UInt8}:decide ((c.toNat:Int)=92)=decide (c=92):=by
 rw[aOE];simp only[aOt];constructor
 .intro h;have:c.toNat=92:=by omega
  exact UInt8.toNat.inj this
 intro h;subst h;rfl
def DD:pJ->Bool
 |d::_=>uI d
 |[]=>false
def a3R (c:UInt8) (r:pJ):uP (c::r)=if uI c=true then(if c=92/\DD r=true then uP (r.drop 1)+2 else 0) else uP r+1:=by
 cases r with
 |nil=>
  unfold uP;simp only[DD,aOT,and_false,aPq]
  try rfl
 |cons d r'=>rw[uP];rfl
def gp {ρ:Type}{f:Int->Option (Int⊕ρ)}{s:pJ}(g:Nat->ρ) (e:ρ)
  (hf: ∀(i:Nat) (h:i<s.length),f i=if uI s[i]=true then(if s[i]=92/\DD (s.drop (i+1))=true then some (.inl ((i+2:Nat):Int)) else some (.inr (g i))) else some (.inl ((i+1:Nat):Int)))
  (F:f s.length=some (.inr e)): ∀(n j:Nat),s.length<=j+n->j<=s.length->rC f j=some (if j+uP (s.drop j)<s.length then g (j+uP (s.drop j)) else e)
 |n,j,I,K=>by
  by_cases z:j<s.length
  .cases n with
   |zero=>omega
   |succ n=>
    rw[sZ,hf j z,aOx z,a3R];by_cases E:uI s[j]=true
    .rw[aOd E,aOd E];by_cases D:s[j]=92/\DD (s.drop (j+1))=true
     .rw[aOd D,aOd D];have G:j+1<s.length:=by
       by_cases G:j+1<s.length
       .exact G
       have:=D.2;rw[List.drop_eq_nil_of_le pN] at this;cases this
      show rC f ((j+2:Nat):Int)=_;rw[gp g e hf F n (j+2) pN pN,aPj,show j+1+1=j+2 by omega,show j+(uP (s.drop (j+2))+2)=j+2+uP (s.drop (j+2)) by omega]
     rw[aOi D,aOi D];show some (g j)=_;rw[aPm,aOd z]
    rw[aOi E,aOi E];show rC f ((j+1:Nat):Int)=_;rw[gp g e hf F n (j+1) pN pN,show j+(uP (s.drop (j+1))+1)=j+1+uP (s.drop (j+1)) by omega]
  have:j=s.length:=by omega
  subst this;rw[aOQ,sZ,F];show some e=_;rw[aOi (by simp [uP])]
def gq {s:pJ}{i:Nat}(h:i+1<s.length):DD (s.drop (i+1))=uI s[i+1]:=by
 rw[aOx h];rfl
def gr {s:pJ}{i:Nat}(h: ¬i+1<s.length):DD (s.drop (i+1))=false:=by
 rw[List.drop_eq_nil_of_le pN];rfl
def a3S (s:pJ) (G:fit s):OE s=some ((uP s:Nat):Int):=by
 unfold fit at G;have h:=gp (f:=OD s) (s:=s) (λi=> .inr (i:Int)) (.inl ()) (λi h=>by
  unfold OD;rw[aOd (sG h),aOd (rP h),wJ h,yp,aOd (s5 pN)];show (if (!uI s[i])=true then _ else _:Option (Int⊕(Unit⊕Int)))=_;cases K:uI s[i] with
  |false=>simp
  |true=>
   rw[aOi pP,aOd rfl,aOd (rP h),aOd (λ_=>s5 pN),aOd (λ_=>s5 pN)];by_cases E:i+1<s.length
   .have hb:=wJ E;rw[Int.natCast_add,Int.natCast_one] at hb;rw[aOd (λ_=>⟨pN,pN⟩),hb,yp,gq E];have D:decide ((i:Int)+1=(s.length:Int))=false:=by simp;omega
    rw[D,Bool.or_false];by_cases j:s[i]=92
    .have z:decide ((s[i].toNat:Int)=92)=true:=by rw[gn];simpa using j
     rw[z];show (if (!uI s[i+1])=true then _ else _:Option (Int⊕(Unit⊕Int)))=_;cases I:uI s[i+1] with
     |true=>
      rw[aOi pP,aOd aQF,aOd aQF,aOd ⟨j,rfl⟩];congr 3
     |false=>rw[aOd pP,aOi pP]
    have z:decide ((s[i].toNat:Int)=92)=false:=by rw[gn];simpa using j
    rw[z,aOd pP,aOi (λh=>j h.1)]
   have D:decide ((i:Int)+1=(s.length:Int))=true:=by simp;omega
   rw[D,aOd pP,aOd pP,gr E,aOi pP]) (by
  unfold OD;rw[aOi (sL _)]) s.length 0 pN pN
 unfold OE;rw[show (0:Int)=((0:Nat):Int) from rfl,h];simp only[aOO,aOP];have:=LF s;by_cases F:uP s<s.length
 .rw[aOd F];rfl
 rw[aOi F];show some (s.length:Int)=_;rw[show uP s=s.length by omega]
def aHV (s:pJ) (K:fit s) (j:Nat) (M:j<=s.length):SP s j=some ((j+uP (s.drop j):Nat):Int):=by
 unfold fit at K;have h:=gp (f:=NM s) (s:=s) (λi=> .inr (i:Int)) (.inl (s.length:Int)) (λi h=>by
  unfold NM;rw[aOd (sG h),aOd (rP h),wJ h,aOd (λ_=>s5 pN),aOd (λ_=>s5 pN)];have z: ∀c:UInt8,(((((decide ((c.toNat:Int)=123)||decide ((c.toNat:Int)=125))||decide ((c.toNat:Int)=60))||decide ((c.toNat:Int)=62))||decide ((c.toNat:Int)=35))||decide ((c.toNat:Int)=92))=uI c:=λ_=>rfl
  by_cases G:i+1<s.length
  .have hb:=wJ G;rw[Int.natCast_add,Int.natCast_one] at hb;have F:decide ((i:Int)+1<(s.length:Int))=true:=by simp;omega
   rw[aOd (λ_=>⟨pN,pN⟩),hb,z,z,gq G,F,Bool.and_true,gn];by_cases D:s[i]=92
   .have E:uI s[i]=true:=by rw[D];rfl
    rw[E,aOd rfl,D];cases O:uI s[i+1] with
    |true=>rw[aOd pO,aOd aQF,aOd ⟨rfl,rfl⟩];rfl
    |false=>rw[aOi pP,aOd (rP h),aOi pP,aOi pP]
   rw[aOi (by simp [D]),aOd (rP h)];cases E:uI s[i] with
   |true=>rw[aOi pP,aOd rfl,aOi (λh=>D h.1)]
   |false=>rw[aOd pP,aOd (s5 pN),aOi pP];rfl
  .have F:decide ((i:Int)+1<(s.length:Int))=false:=by simp;omega
   rw[F,Bool.and_false,aOd (λh=>by simp at h),aPC,aOi pP,z,gr G,aOd (rP h)];cases E:uI s[i] with
   |true=>rw[aOi pP,aOd rfl,aOi pP]
   |false=>rw[aOd pP,aOd (s5 pN),aOi pP];rfl) (by
  unfold NM;rw[aOi (sL _)]) s.length j pN M
 unfold SP;rw[h];have:=LF (s.drop j);rw[aON] at this;by_cases I:j+uP (s.drop j)<s.length
 .rw[aOd I];rfl
 rw[aOi I];show some (s.length:Int)=_;rw[show j+uP (s.drop j)=s.length by omega]
def wK (c:UInt8):Bool:= !decide (c=62)
def zD (t:pJ):Int×pJ:=if t.head? =some 47 then(6,t.drop 1) else if t.getLast? =some 47 then(7,t.dropLast) else(5,t)
def yH (s:pJ):Int×pJ×Nat:=
 if s0 wK s<s.length then
  (if uT (zD ((s.take (s0 wK s)).drop 1)).2=true then((zD ((s.take (s0 wK s)).drop 1)).1,(zD ((s.take (s0 wK s)).drop 1)).2,s0 wK s+1) else(0,[],0))
 else(0,[],0)
def a3T: ∀(l:pJ),Lib.indexByte l 62=Q4 (l.findIdx? λb=>decide (b=62))
 |[]=>rfl
 |b::t=>by
  rw[Lib.indexByte,aPu,a3T t,a3B,a3C];by_cases h:b=62
  .subst h;rfl
  rw[aOi (by simpa using λe=>h (Eq.symm e)),aOi aQe]
def aHW (l:pJ):AM l 62=if s0 wK l<l.length then(s0 wK l:Int) else-1:=by
 have D:AM l 62=Lib.indexByte l 62:=sib l 62;have j:=gj wK l;have z:(λb=> !wK b)=λb=>decide (b=62):=by funext b;simp [wK]
 rw[z] at j;rw[D,a3T,j];split<;>rfl
def aHX (t:pJ):GJ t [47]=some (if t.head? =some 47 then(t.drop 1,true) else(t,false)):=by
 unfold GJ SO SN;have F:((Qa7.length:Nat):Int)=1:=rfl;rw[F];cases t with
 |nil=>rfl
 |cons a r=>
  have E:decide ((1:Int)<=((a::r).length:Int))=true:=by simp;omega
  have D:s8 (a::r) (0:Int) (1:Int)=[a]:=rfl;rw[aOd (λ_=>⟨pN,pN,by simp;omega⟩),E,D];have z:s8 (a::r) (1:Int) ((a::r).length:Int)=r:=by
   rw[show (1:Int)=((1:Nat):Int) from rfl,FO];rfl
  by_cases ha:a=47
  .subst ha;simp only[aOc,decide_true,Bool.and_self,Bool.not_true,aOT,aPq];rw[aOd ⟨pN,by simp;omega,aPf _⟩,z];rfl
  have j:decide ([a]=Qa7)=false:=by simpa using ha
  rw[j];simp [ha]
def aHY (t:pJ) (j:fit t):TP t [47]=some (if t.getLast? =some 47 then(t.dropLast,true) else(t,false)):=by
 unfold fit at j;unfold TP X9 X0;have G:((Qa7.length:Nat):Int)=1:=rfl;rw[G];by_cases h0:t=[]
 .subst h0;rfl
 have I:0<t.length:=aP1.2 h0;have F:decide ((1:Int)<=(t.length:Int))=true:=by simp;omega
 have E:s8 t ((t.length:Int)-1) (t.length:Int)=[t.getLast h0]:=by
  rw[show (t.length:Int)-1=((t.length-1:Nat):Int) by omega,FO];rw[aOx pN,List.getLast_eq_getElem,List.drop_eq_nil_of_le pN]
 have D:s8 t (0:Int) ((t.length:Int)-1)=t.dropLast:=by
  rw[show (t.length:Int)-1=((t.length-1:Nat):Int) by omega,UG,List.dropLast_eq_take]
 rw[aOd (λ_=>by unfold qH;omega),aOd (λ_=>⟨pN,pN,aPf _⟩),F,E,List.getLast?_eq_getLast h0];by_cases ha:t.getLast h0=47
 .rw[ha];simp only[aOc,decide_true,Bool.and_self,Bool.not_true,aOT,aPq];rw[aOd aQF,aOd ⟨pN,pN,pN⟩,D];rfl
 have z:decide ([t.getLast h0]=Qa7)=false:=by simpa using ha
 rw[z];simp [ha]
def aHZ (r:pJ) (I:fit (60::r)):TQ (60::r)=some ((yH (60::r)).1,(yH (60::r)).2.1,(((yH (60::r)).2.2:Nat):Int)):=by
 have D:=I;unfold fit at D;unfold TQ yH;rw[aHW];by_cases j:s0 wK (60::r)<(60::r).length
 .rw[aOd j,aOd j];have z:1<=s0 wK (60::r):=by
   have:wK 60=true:=rfl;simp [s0,this]
  generalize s0 wK (60::r)=e at j z;have M:s8 (60::r) (1:Int) (e:Int)=((60::r).take e).drop 1:=by
   unfold s8;rw[show (1:Int).toNat=1 from rfl,aOV,List.drop_take]
  rw[aOi (by simp<;>omega),aOd ⟨pN,pN,pN⟩,M]
  have E:fit (((60::r).take e).drop 1):=by
   unfold fit;rw[aON,aO2];omega
  generalize ((60::r).take e).drop 1=t at E;rw[aHX,aHY t E];have F:fit (zD t).2:=by
   unfold fit at E|-;unfold zD;split
   .simp;omega
   split<;>simp<;>omega
  have key:(rD (σ:=(Int×pJ)) (if (if t.head? =some 47 then(t.drop 1,true) else(t,false)).2=true then some ((6:Int),(if t.head? =some 47 then(t.drop 1,true) else(t,false)).1) else(some (if t.getLast? =some 47 then(t.dropLast,true) else(t,false))).bind λO=>if O.2=true then some ((7:Int),O.1) else some ((5:Int),t)) fun(x:Int×pJ)=>(AS x.2).bind λa8=>if (!a8)=true then some ((0:Int),([]:pJ),(0:Int)) else if qH ((e:Int)+1) then some (x.1,x.2,(e:Int)+1) else none)=some (if uT (zD t).2=true then((zD t).1,(zD t).2,((e+1:Nat):Int)) else(0,[],0)):=by
   have K:(if (if t.head? =some 47 then(t.drop 1,true) else(t,false)).2=true then some ((6:Int),(if t.head? =some 47 then(t.drop 1,true) else(t,false)).1) else(some (if t.getLast? =some 47 then(t.dropLast,true) else(t,false))).bind λO=>if O.2=true then some ((7:Int),O.1) else some ((5:Int),t))=some (zD t):=by
    unfold zD;by_cases z:t.head? =some 47
    .simp only[z,aPl]
    by_cases G:t.getLast? =some 47
    .simp [z,G]
    simp [z,G]
   rw[K];unfold rD;rw[aOc,Q7 _ F,aOc];cases uT (zD t).2 with
   |true=>rw[aOi pP,aOd (by unfold qH;simp only[aOe] at j D;omega),aOd rfl];rfl
   |false=>rfl
  refine Eq.trans key ?_;cases uT (zD t).2<;>rfl
 rw[aOi j,aOi j];rfl
def FP (s:pJ):Int×pJ×Nat:=
 let q:Int×Nat:=if (s.drop 1).head? =some 47 then(6,2) else(5,1)
 let m:=s0 sV (s.drop q.2)
 let k:Int×Nat:=if q.1=5/\(s.drop (q.2+m)).head? =some 47 then(7,q.2+m+1) else(q.1,q.2+m)
 if uT ((s.drop q.2).take m)=true/\(s.drop k.2).head? =some 62 then(k.1,(s.drop q.2).take m,k.2+1) else(0,[],0)
def gt {p:UInt8->Bool}{c:UInt8}(h:p c=false) (r:pJ): ∀t:pJ,s0 p (t++c::r)=s0 p t
 |[]=>by simp [s0,h]
 |a::t=>by
  rw[List.cons_append];unfold s0;rw[gt h r t]
def XW {p:UInt8->Bool}: ∀{t:pJ},t.all p=true->s0 p t=t.length
 |[],_=>rfl
 |a::t,h=>by
  simp only[List.all_cons,aOo] at h;unfold s0;rw[aOd h.1,XW h.2];rfl
def a3U {p:UInt8->Bool}: ∀(t:pJ),(t.take (s0 p t)).all p=true
 |[]=>rfl
 |a::t=>by
  unfold s0;by_cases h:p a=true
  .rw[aOd h,List.take_succ_cons,List.all_cons,h,a3U t];rfl
  rw[aOi h];rfl
def a3V {p:UInt8->Bool}: ∀{t:pJ}(h:s0 p t<t.length),p t[s0 p t]=false
 |[],h=>by simp at h
 |a::t,h=>by
  by_cases ha:p a=true
  .have e:s0 p (a::t)=s0 p t+1:=by rw[s0,aOd ha]
   have j:s0 p t<t.length:=by rw[e] at h;simpa using h
   have:=a3V j;simp only[e,List.getElem_cons_succ];exact this
  have e:s0 p (a::t)=0:=by rw[s0,aOi ha]
  simp only[e,List.getElem_cons_zero];simpa using ha
def gu {s:pJ}(h:uT s=true):s.all sV=true:=by
 cases s with
 |nil=>rfl
 |cons b t=>unfold uT at h;simp only[aOo] at h;exact h.2
def a3W: ∀r:pJ,(∃t r',r=t++62::r'/\t.all wK=true)\/r.all wK=true
 |[]=> .inr rfl
 |a::r=>by
  by_cases h:a=62
  .subst h;exact .inl ⟨[],r,rfl,rfl⟩
  have ha:wK a=true:=by simp [wK,h]
  rcases a3W r with⟨t,r',rfl,j⟩ |hr
  .exact .inl ⟨a::t,r',rfl,by rw[List.all_cons,ha,j];rfl⟩
  exact .inr (by rw[List.all_cons,ha,hr];rfl)
def aH0 {r:pJ}(h:r.all wK=true):yH (60::r)=(0,[],0):=by
 unfold yH;have:s0 wK (60::r)=(60::r).length:=XW (by rw[List.all_cons,h];rfl);rw[this,aOi (aPO _)]
def aH1 {t r':pJ}(h:t.all wK=true):yH (60::(t++62::r'))=if uT (zD t).2=true then((zD t).1,(zD t).2,t.length+2) else(0,[],0):=by
 unfold yH;have z:s0 wK (60::(t++62::r'))=t.length+1:=by
  have:=gt (p:=wK) (c:=62) rfl r' (60::t);rw[List.cons_append] at this;rw[this,XW (by rw[List.all_cons,h];rfl)];rfl
 rw[z,aOd pP];have j:((60::(t++62::r')).take (t.length+1)).drop 1=t:=by simp
 rw[j]
def a3X {r:pJ}(h:r.all wK=true) (k:Nat):(r.drop k).head?≠some 62:=by
 intro j;have:(62:UInt8)∈r:=List.mem_of_mem_drop (List.mem_of_head? j);have:=aPh.1 h _ this;cases this
def yq {t r':pJ}(h:t.all wK=true) {k:Nat}(hk:k<=t.length):((t++62::r').drop k).head? =some 62↔k=t.length:=by
 rw[List.drop_append_of_le_length hk];by_cases D:k=t.length
 .subst D;simp
 constructor
 .intro z;have j:t.drop k≠[]:=by
   intro e;have:=aOI List.length e;simp at this;omega
  have F:(t.drop k).head? =some 62:=by
   cases E:t.drop k with
   |nil=>exact absurd E j
   |cons a u=>rw[E] at z;exact z
  exact absurd F (a3X h k)
 intro e;exact absurd e D
def aH2 (r:pJ):FP (60::r)=yH (60::r):=by
 rcases a3W r with⟨t,r',rfl,O⟩ |hr
 .rw[aH1 O];unfold FP;simp only[aPP,aOP];by_cases G:(t++62::r').head? =some 47
  ·
   obtain⟨t',rfl⟩: ∃t',t=47::t':=by
    cases t with
    |nil=>simp at G
    |cons a u=>simp at G;subst G;exact⟨u,rfl⟩
   have Z:t'.all wK=true:=by simp only[List.all_cons,aOo] at O;exact O.2
   simp only[List.cons_append,List.head?_cons,aPl,aPP,aOP,show¬((6:Int)=5/\_)↔True from by simp];have hm:s0 sV (t'++62::r')=s0 sV t':=gt rfl r' t';rw[hm];have E:=GS sV t';have hq:zD (47::t')=(6,t'):=by simp [zD]
   rw[hq];have e1:(60::47::(t'++62::r')).drop (2+s0 sV t')=(t'++62::r').drop (s0 sV t'):=by
    rw[show 2+s0 sV t'=s0 sV t'+1+1 by omega];rfl
   simp only[show¬(6:Int)=5 by decide,false_and,aPq,e1,yq Z E,aPQ E];by_cases K:s0 sV t'=t'.length
   .rw[K,List.take_length];simp only[and_true,aOe];split
    .congr 2;omega
    rfl
   rw[aOi (λh=>K h.2),aOi];intro h;exact K (XW (gu h))
  simp only[aOi G,aPP,aOP];have hm:s0 sV (t++62::r')=s0 sV t:=gt rfl r' t;rw[hm];have E:=GS sV t;have X:t.head?≠some 47:=by
   intro e;cases t with
   |nil=>simp at e
   |cons a u=>exact G e
  have e1: ∀k,(60::(t++62::r')).drop (1+k)=(t++62::r').drop k:=λk=>by rw[Nat.add_comm];rfl
  simp only[true_and,e1,aPQ E];unfold zD;rw[aOi X];by_cases K:s0 sV t=t.length
  ·
   have V:t.all sV=true:=by have:=a3U (p:=sV) t;rw[K,List.take_length] at this;exact this
   have hl:t.getLast?≠some 47:=by
    intro e;have:=aPh.1 V 47 (List.mem_of_getLast? e);cases this
   have hd:((t++62::r').drop (s0 sV t)).head? =some 62:=(yq O E).2 K;have R:(if (List.drop (s0 sV t) (t++62::r')).head? =some 47 then((7:Int),1+s0 sV t+1) else(5,1+s0 sV t))=(5,1+s0 sV t):=aOi (by rw[hd];simp);simp only[R];simp only[e1,hd,and_true];rw[K,List.take_length,aOi hl];simp only;split
   .congr 2;omega
   rfl
  have F:s0 sV t<t.length:=by omega
  have hst:=a3V F;have hc:t.drop (s0 sV t)=t[s0 sV t]::t.drop (s0 sV t+1):=aOx F;have U:uT t=false:=by
   cases Q:uT t with
   |false=>rfl
   |true=>exact absurd (XW (gu Q)) K
  have M:((t++62::r').drop (s0 sV t)).head? =some t[s0 sV t]:=by
   rw[List.drop_append_of_le_length E,hc];rfl
  by_cases Y:t[s0 sV t]=47
  .have R:(if (List.drop (s0 sV t) (t++62::r')).head? =some 47 then((7:Int),1+s0 sV t+1) else(5,1+s0 sV t))=(7,1+(s0 sV t+1)):=aOd (by rw[M,Y]);simp only[R];simp only[e1,yq O (show s0 sV t+1<=t.length by omega)];by_cases D:s0 sV t+1=t.length
   .have z:t.getLast? =some 47:=by
     rw[List.getLast?_eq_getElem?,<-D,Nat.add_sub_cancel,aOn F,Y]
    have hg:t.dropLast=t.take (s0 sV t):=by rw[List.dropLast_eq_take,<-D,Nat.add_sub_cancel]
    rw[aOd z,hg];simp only[D,and_true];split
    .congr 2;omega
    rfl
   rw[aOi (λh=>D h.2)];by_cases z:t.getLast? =some 47
   .rw[aOd z,aOi];intro Q;have I:t[s0 sV t]∈t.dropLast:=by
     rw[List.dropLast_eq_take];exact aPz.2 ⟨s0 sV t,pN,rfl⟩
    have:=aPh.1 (gu Q) _ I;rw[hst] at this;cases this
   rw[aOi z,aOi (by rw[U];simp)]
  have R:(if (List.drop (s0 sV t) (t++62::r')).head? =some 47 then((7:Int),1+s0 sV t+1) else(5,1+s0 sV t))=(5,1+s0 sV t):=aOi (by rw[M];simpa using Y);simp only[R];simp only[e1,M];have hh:t[s0 sV t]≠62:=by
   intro e;have:=aPh.1 O _ (aOm F);rw[e] at this;cases this
  rw[aOi (λh=>hh (aOj h.2))];by_cases z:t.getLast? =some 47
  .rw[aOd z,aOi];intro Q;have hj:s0 sV t≠t.length-1:=by
    intro e;rw[List.getLast?_eq_getElem?] at z;have h2:t[t.length-1]? =some t[s0 sV t]:=by
     rw[<-aOn F];congr 1;exact e.symm
    rw[h2] at z;exact Y (aOj z)
   have I:t[s0 sV t]∈t.dropLast:=by
    rw[List.dropLast_eq_take];exact aPz.2 ⟨s0 sV t,pN,rfl⟩
   have:=aPh.1 (gu Q) _ I;rw[hst] at this;cases this
  rw[aOi z,aOi (by rw[U];simp)]
 rw[aH0 hr];unfold FP;rw[aOi];rintro⟨-,h⟩;have: ∀k,0<k->((60::r).drop k).head?≠some 62:=λk hk=>by
  obtain⟨j,rfl⟩: ∃j,k=j+1:=⟨k-1,pN⟩;exact a3X hr j
 refine this _ ?_ h
 repeat' split
 all_goals first|omega|(simp only;omega)
def UO {s:pJ}{i:Nat}(h:i<s.length) (c:UInt8):(s.drop i).head? =some c↔s[i]=c:=by
 rw[aOx h,List.head?_cons,aOf]
def XX {s:pJ}{i:Nat}(h: ¬i<s.length) (c:UInt8):(s.drop i).head?≠some c:=by
 rw[List.drop_eq_nil_of_le pN];simp
def zE {s:pJ}{i:Nat}(h:i<s.length) (n:Nat) (j:n<256):decide (r7 s i=(n:Int))=decide (s[i]=UInt8.ofNat n):=by
 rw[wJ h,aOE];simp only[aOt];constructor
 .intro e;have:s[i].toNat=n:=by omega
  rw[<-this];simp
 intro e;rw[e];simp [Nat.mod_eq_of_lt j]
def aH3 (s:pJ) (V:fit s) (j:Nat) (X:j<s.length):TO s j=some (if s[j]=60/\(FP (s.drop j)).1≠0 then((FP (s.drop j)).1,(FP (s.drop j)).2.1,(j:Int),((j+(FP (s.drop j)).2.2:Nat):Int)) else(0,[],0,0)):=by
 have Q:=V;unfold fit at Q;unfold TO;rw[aOd (s5 pN),aOd (λh=>⟨pN,by simpa using h⟩)];obtain⟨q,O⟩: ∃q:Int×Nat,(if ((s.drop j).drop 1).head? =some 47 then(6,2) else(5,1))=q:=⟨_,rfl⟩;have I:j+q.2<=s.length:=by
  rw[<-O];split
  .rename_i h;rw[aPj] at h;by_cases z:j+1<s.length
   .dsimp only;omega
   exact absurd h (XX z 47)
  dsimp only;omega
 have Y:q.1=5\/q.1=6:=by rw[<-O];split<;>simp
 have e1:(if ((((j:Int)+(1:Int))<(s.length:Int))&&((r7 s ((j:Int)+(1:Int)))=(47:Int)))=true then(if qH (((j:Int)+(1:Int))+(1:Int)) then some (((6:Int),(((j:Int)+(1:Int))+(1:Int)))) else none) else some (((5:Int),((j:Int)+(1:Int)))))=some (q.1,((j+q.2:Nat):Int)):=by
  rw[<-O,aPj];by_cases z:j+1<s.length
  .have hb:=zE z 47 pO;rw[Int.natCast_add,Int.natCast_one] at hb;rw[show ((47:Nat):Int)=47 from rfl] at hb;rw[hb,show decide (((j:Int)+1)<(s.length:Int))=true by simp;omega,Bool.true_and];by_cases D:s[j+1]=47
   .rw[aOd (by rw[D];rfl),aOd aQF,aOd ((UO z 47).2 D)];congr 2
   rw[aOi aQw,aOi (λh=>D ((UO z 47).1 h))];rfl
  rw[show decide (((j:Int)+1)<(s.length:Int))=false by simp;omega,aPC,aOi pP,aOi (XX z 47)];rfl
 rw[e1];unfold rD;rw[aOc];simp only;rw[aHU s V (j+q.2) I,aOc];obtain⟨m,hm⟩: ∃m,s0 sV (s.drop (j+q.2))=m:=⟨_,rfl⟩;have Z:j+q.2+m<=s.length:=by
  have:=GS sV (s.drop (j+q.2));rw[hm,aON] at this;omega
 rw[hm];have K:min (((j+q.2:Nat):Int)) (s.length:Int)=((j+q.2:Nat):Int):=by omega
 rw[K,aOd ⟨pN,pN,pN⟩,aOd (λh=>⟨pN,by
  simp only[aP2,aOo,aOt] at h;exact h.2⟩)]
 have M:s8 s ((j+q.2:Nat):Int) ((j+q.2+m:Nat):Int)=((s.drop j).drop q.2).take m:=by
  unfold s8;rw[aOV,aOV,aPj,aOW]
 rw[M];obtain⟨k,hk⟩: ∃k:Int×Nat,(if q.1=5/\((s.drop j).drop (q.2+m)).head? =some 47 then(7,q.2+m+1) else(q.1,q.2+m))=k:=⟨_,rfl⟩;have hc:j+k.2<=s.length:=by
  rw[<-hk];split
  .rename_i h;have h:=h.2;rw[aPj] at h;by_cases z:j+(q.2+m)<s.length
   .dsimp only;omega
   exact absurd h (XX z 47)
  dsimp only;omega
 have R:k.1≠0:=by rw[<-hk];split<;>simp<;>omega
 have e2:(if (((q.1=(5:Int))&&(((j+q.2+m:Nat):Int)<(s.length:Int)))&&((r7 s ((j+q.2+m:Nat):Int))=(47:Int)))=true then(if qH (((j+q.2+m:Nat):Int)+(1:Int)) then some (((7:Int),(((j+q.2+m:Nat):Int)+(1:Int)))) else none) else some ((q.1,((j+q.2+m:Nat):Int))))=some (k.1,((j+k.2:Nat):Int)):=by
  rw[<-hk,aPj,<-aOX];by_cases z:j+q.2+m<s.length
  .have hb:=zE z 47 pO;rw[show ((47:Nat):Int)=47 from rfl] at hb;rw[hb,show decide (((j+q.2+m:Nat):Int)<(s.length:Int))=true by simp;omega,Bool.and_true];by_cases D:q.1=5/\s[j+q.2+m]=47
   .rw[aOd (by rw[D.1,D.2];rfl),aOd aQF,aOd ⟨D.1,(UO z 47).2 D.2⟩];congr 2;dsimp only;omega
   rw[aOi aQw,aOi (λh=>D ⟨h.1,(UO z 47).1 h.2⟩)];congr 2;dsimp only;omega
  rw[show decide (((j+q.2+m:Nat):Int)<(s.length:Int))=false by simp;omega,Bool.and_false,aPC,aOi pP,aOi (λh=>XX z 47 h.2)];congr 2;dsimp only;omega
 rw[e2,aOc];simp only;have hM:FP (s.drop j)=if uT (((s.drop j).drop q.2).take m)=true/\((s.drop j).drop k.2).head? =some 62 then(k.1,((s.drop j).drop q.2).take m,k.2+1) else(0,[],0):=by
  unfold FP;simp only[O];rw[show s0 sV ((s.drop j).drop q.2)=m by rw[aPj];exact hm];simp only[hk]
 rw[hM,aOd (rP X)];obtain⟨nm,G⟩: ∃nm,((s.drop j).drop q.2).take m=nm:=⟨_,rfl⟩;rw[G];have U:fit nm:=by
  unfold fit;rw[<-G,aO2,aON,aON];omega
 have hb:=zE X 60 pO;rw[show ((60:Nat):Int)=60 from rfl,show UInt8.ofNat 60=60 from rfl] at hb;rw[hb,LD nm U,uE,aOd (show _->(some (uT nm)).isSome=true from λ_=>rfl)];by_cases E:s[j]=60
 .rw[E,show decide ((60:UInt8)=60)=true from rfl];simp only[Bool.not_true,Bool.false_or,true_and];cases hn:uT nm with
  |false=>
   rw[aOd (λh=>by simp at h),aOd pP,aOi pP]
  |true=>
   simp only[Bool.not_true,Bool.false_or,true_and];rw[aPj];by_cases z:j+k.2<s.length
   .have hb:=zE z 62 pO;rw[show ((62:Nat):Int)=62 from rfl,show UInt8.ofNat 62=62 from rfl] at hb;rw[aOd (λ_=>rP z),hb,show decide ((s.length:Int)<=((j+k.2:Nat):Int))=false by simp;omega,Bool.false_or];by_cases D:s[j+k.2]=62
    .rw[D,aOi pP,aOd aQF];have F:(s.drop (j+k.2)).head? =some 62:=(UO z 62).2 D;simp only[F,aPl];rw[aOd R];congr 4
    rw[aOd aQw];have F:(s.drop (j+k.2)).head?≠some 62:=λh=>D ((UO z 62).1 h);simp only[F,aPq];rw[aOi pP]
   rw[show decide ((s.length:Int)<=((j+k.2:Nat):Int))=true by simp;omega];have F:(s.drop (j+k.2)).head?≠some 62:=XX z 62;rw[aOd (λh=>by simp at h),aOd pP];simp only[F,aPq];rw[aOi pP]
 rw[show decide (s[j]=60)=false by simpa using E];simp only[Bool.not_false,Bool.true_or,aPl];rw[aOd (λh=>by simp at h),aOi (λh=>E h.1)]
def t8 (brace:Bool):pJ->Int×pJ×Nat
 |[]=>(0,[],0)
 |c::r=>
  if c=123 then(2,[123],1) else if c=125 then(3,[125],1)
  else if brace=true then(if c=44 then(8,[44],1) else if s0 xT (c::r)=0 then(0,[],0) else(9,(c::r).take (s0 xT (c::r)),s0 xT (c::r)))
  else if c=35 then(4,[35],1) else if c=60 then yH (60::r) else if uP (c::r)=0 then(0,[],0) else(1,(c::r).take (uP (c::r)),uP (c::r))
def a3Y (s:pJ):(yH s).2.2<=s.length/\((yH s).1≠0->0<(yH s).2.2/\5<=(yH s).1/\(yH s).1<=7)/\0<=(yH s).1:=by
 unfold yH zD
 repeat' split
 all_goals (simp only;refine⟨?_,?_,?_⟩)
 all_goals first|omega|(intro _;omega) |(intro h;exact absurd rfl h)
def yr (b:Bool) (s:pJ):(t8 b s).2.2<=s.length/\((t8 b s).1≠0->0<(t8 b s).2.2):=by
 cases s with
 |nil=>exact⟨aOA _,λh=>absurd rfl h⟩
 |cons c r=>
  have D:=GS xT (c::r);have z:=LF (c::r);have j:=a3Y (60::r);unfold t8;simp only[aOe] at D z j|-
  repeat' split
  all_goals first
   |exact⟨j.1,λh=>(j.2.1 h).1⟩
   |exact⟨by simp only;omega,λh=>by simp only;omega⟩
   |exact⟨by simp only;omega,λh=>absurd rfl h⟩
def UP (brace:Bool) (c:UInt8) (r:pJ):t8 brace (c::r)=if c=123 then(2,[123],1) else if c=125 then(3,[125],1)
  else if brace=true then(if c=44 then(8,[44],1) else if s0 xT (c::r)=0 then(0,[],0) else(9,(c::r).take (s0 xT (c::r)),s0 xT (c::r)))
  else if c=35 then(4,[35],1) else if c=60 then yH (60::r) else if uP (c::r)=0 then(0,[],0) else(1,(c::r).take (uP (c::r)),uP (c::r)):=rfl
def Q8 {c:UInt8}{r:pJ}(n:Nat) (j:n<256):decide (r7 (c::r) (0:Int)=(n:Int))=decide (c=UInt8.ofNat n):=zE (s:=c::r) (i:=0) pP n j
def aH4 (s:pJ) (D:fit s) (b:Bool) (h0:s≠[]):TV s b=some ((t8 b s).1,(t8 b s).2.1,(((t8 b s).2.2:Nat):Int)):=by
 cases s with
 |nil=>exact absurd rfl h0
 |cons c r=>
  have E:s8 (c::r) (0:Int) (1:Int)=[c]:=rfl;have z:(0:Int)<=0/\(0:Int)<=1/\(1:Int)<=((c::r).length:Int):=⟨pN,pN,by simp<;>omega⟩
  have b123:=Q8 (c:=c) (r:=r) 123 pO;have b125:=Q8 (c:=c) (r:=r) 125 pO;have b44:=Q8 (c:=c) (r:=r) 44 pO;have b35:=Q8 (c:=c) (r:=r) 35 pO;have b60:=Q8 (c:=c) (r:=r) 60 pO;rw[show ((123:Nat):Int)=123 from rfl,show UInt8.ofNat 123=123 from rfl] at b123;rw[show ((125:Nat):Int)=125 from rfl,show UInt8.ofNat 125=125 from rfl] at b125;rw[show ((44:Nat):Int)=44 from rfl,show UInt8.ofNat 44=44 from rfl] at b44;rw[show ((35:Nat):Int)=35 from rfl,show UInt8.ofNat 35=35 from rfl] at b35;rw[show ((60:Nat):Int)=60 from rfl,show UInt8.ofNat 60=60 from rfl] at b60;rw[UP];unfold TV;rw[aOd ⟨pN,by simp<;>omega⟩,b123,b125,b44,b35,b60,E]
  by_cases e1:c=123
  .subst e1;rw[aOd (show decide ((123:UInt8)=123)=true from rfl),aOd z];rfl
  rw[aOi (show¬decide (c=123)=true by simpa using e1),aOi e1];by_cases e2:c=125
  .subst e2;rw[aOd (show decide ((125:UInt8)=125)=true from rfl),aOd z];rfl
  rw[aOi (show¬decide (c=125)=true by simpa using e2),aOi e2];cases b with
  |true=>
   simp only[Bool.true_and,aPl];by_cases e3:c=44
   .subst e3;rw[aOd (show decide ((44:UInt8)=44)=true from rfl),aOd z];rfl
   rw[aOi (show¬decide (c=44)=true by simpa using e3),aOi e3,aHS _ D];have j:=GS xT (c::r);generalize s0 xT (c::r)=n at j;by_cases e4:n=0
   .subst e4;rfl
   .rw[aOi e4];show (if decide ((n:Int)=0)=true then _ else _:Option (Int×pJ×Int))=_;rw[aOi (by simpa using e4),aOd ⟨pN,pN,pN⟩,UG]
  |false=>
   simp only[aPC,aOT,aPq];by_cases e3:c=35
   .subst e3;rw[aOd (show decide ((35:UInt8)=35)=true from rfl),aOd z];rfl
   rw[aOi (show¬decide (c=35)=true by simpa using e3),aOi e3];by_cases e4:c=60
   .subst e4;rw[aOd (show decide ((60:UInt8)=60)=true from rfl),aOd rfl,aHZ r D];rfl
   rw[aOi (show¬decide (c=60)=true by simpa using e4),aOi e4,a3S _ D];have j:=LF (c::r);generalize uP (c::r)=n at j;by_cases e4:n=0
   .subst e4;rfl
   rw[aOi e4];show (if decide ((n:Int)=0)=true then _ else _:Option (Int×pJ×Int))=_;rw[aOi (by simpa using e4),aOd ⟨pN,pN,pN⟩,UG]
def aH5 (s:pJ) (K:fit s) (j:Nat) (D:j<s.length):P9 s j=some (if (t8 true (s.drop j)).1=0 then(0,[],0,0) else((t8 true (s.drop j)).1,(t8 true (s.drop j)).2.1,(j:Int),((j+(t8 true (s.drop j)).2.2:Nat):Int))):=by
 have I:=K;unfold fit at I;unfold P9;rw[aHT s K j pN];unfold rD;rw[aOc];have z:=GS xT (s.drop j);rw[aON] at z;have b123:=zE D 123 pO;have b125:=zE D 125 pO;have b44:=zE D 44 pO;rw[show ((123:Nat):Int)=123 from rfl,show UInt8.ofNat 123=123 from rfl] at b123;rw[show ((125:Nat):Int)=125 from rfl,show UInt8.ofNat 125=125 from rfl] at b125;rw[show ((44:Nat):Int)=44 from rfl,show UInt8.ofNat 44=44 from rfl] at b44;have M:s.drop j=s[j]::s.drop (j+1):=aOx D;have E:s8 s (j:Int) ((j+s0 xT (s.drop j):Nat):Int)=(s.drop j).take (s0 xT (s.drop j)):=by
  unfold s8;rw[aOV,aOV,aOW]
 rw[E,b123,b125,b44];rw[M] at z|-;generalize s[j]=c at z|-;generalize s.drop (j+1)=r at z|-;by_cases F:s0 xT (c::r)=0
 .have hi:qH ((j:Int)+1):=s5 pN;rw[F,aOi pP,aOd (rP D),UP,F];by_cases e1:c=123
  .subst e1;rw[aOd pP,aOd hi];rfl
  rw[aOi (by simpa using e1),aOd (rP D),aOi e1];by_cases e2:c=125
  .subst e2;rw[aOd pP,aOd hi];rfl
  rw[aOi (by simpa using e2),aOd (rP D),aOi e2,aOd rfl];by_cases e3:c=44
  .subst e3;rw[aOd pP,aOd hi];rfl
  rw[aOi (by simpa using e3),aOi e3];rfl
 have G:xT c=true:=by
  cases h:xT c with
  |true=>rfl
  |false=>exact absurd (by simp [s0,h]) F
 have e1:c≠123:=by rintro rfl;cases G
 have e2:c≠125:=by rintro rfl;cases G
 have e3:c≠44:=by rintro rfl;cases G
 rw[aOd pQ,aOd ⟨pN,pN,pN⟩,UP,aOi e1,aOi e2,aOd rfl,aOi e3,aOi F];rfl
def aH6 (s:pJ) (G:fit s) (j:Nat) (z:j<s.length) (d:Nat):PA s j d=some (if (t8 false (s.drop j)).1=0\/((t8 false (s.drop j)).1=3/\d=0) then(0,[],0,0) else((t8 false (s.drop j)).1,(t8 false (s.drop j)).2.1,(j:Int),((j+(t8 false (s.drop j)).2.2:Nat):Int))):=by
 have K:=G;unfold fit at K;unfold PA;rw[aHV s G j pN,aOc,aH3 s G j z,aOc];have D:=LF (s.drop j);rw[aON] at D;have b123:=zE z 123 pO;have b125:=zE z 125 pO;have b35:=zE z 35 pO;rw[show ((123:Nat):Int)=123 from rfl,show UInt8.ofNat 123=123 from rfl] at b123;rw[show ((125:Nat):Int)=125 from rfl,show UInt8.ofNat 125=125 from rfl] at b125;rw[show ((35:Nat):Int)=35 from rfl,show UInt8.ofNat 35=35 from rfl] at b35;have Q:s.drop j=s[j]::s.drop (j+1):=aOx z;have E:s8 s (j:Int) ((j+uP (s.drop j):Nat):Int)=(s.drop j).take (uP (s.drop j)):=by
  unfold s8;rw[aOV,aOV,aOW]
 rw[E,b123,b125,b35];rw[Q] at D|-;generalize s[j]=c at D|-;generalize s.drop (j+1)=r at D|-;by_cases F:uP (c::r)=0
 .have hi:qH ((j:Int)+1):=s5 pN;rw[F,aOi pP,aOd (rP z),UP,F];by_cases e1:c=123
  .subst e1;rw[aOd pP,aOd hi];rfl
  rw[aOi (by simpa using e1),aOd (rP z),aOi e1];by_cases e2:c=125
  .subst e2;by_cases O:d=0
   .subst O;rw[aOi (show¬(decide ((125:UInt8)=125)&&decide ((0:Int)<((0:Nat):Int)))=true by simp),aOd (rP z),aOi (show¬decide ((125:UInt8)=35)=true by decide),aOd (show (125:UInt8)=125 from rfl)];rw[aOi (show¬((125:UInt8)=60/\(FP (125::r)).1≠0) from λh=>by cases h.1)];rw[aOd (show (3:Int)=0\/(3:Int)=3/\0=0 from .inr ⟨rfl,rfl⟩)]
   rw[aOd (show (decide ((125:UInt8)=125)&&decide ((0:Int)<(d:Int)))=true by simp;omega),aOd hi,aOd (show (125:UInt8)=125 from rfl),aOi (show¬((3:Int)=0\/(3:Int)=3/\d=0) from λh=>h.elim (λh=>by cases h) λh=>O h.2)];rfl
  rw[aOi (show¬(decide (c=125)&&decide ((0:Int)<(d:Int)))=true by simp [e2]),aOd (rP z),aOi e2];simp only[aOT,aPq];by_cases e3:c=35
  .subst e3;rw[aOd (show decide ((35:UInt8)=35)=true from rfl),aOd hi];rfl
  rw[aOi (show¬decide (c=35)=true by simpa using e3),aOi e3];by_cases e4:c=60
  .subst e4;rw[aH2,aOd (show (60:UInt8)=60 from rfl)];have hE:=a3Y (60::r);generalize yH (60::r)=M at hE|-;by_cases hm:M.1=0
   .rw[aOi (show¬((60:UInt8)=60/\M.1≠0) from λh=>h.2 hm),aOd (show M.1=0\/M.1=3/\d=0 from .inl hm)]
   have:=(hE.2.1 hm).2;rw[aOd (show (60:UInt8)=60/\M.1≠0 from⟨rfl,hm⟩),aOi (show¬(M.1=0\/M.1=3/\d=0) from λh=>h.elim hm λh=>by omega)]
  rw[aOi e4,aOi (show¬(c=60/\(FP (c::r)).1≠0) from λh=>e4 h.1)];simp only[aPl,true_or]
 have I:c≠123/\c≠125/\c≠35/\c≠60:=by
  have: ∀x:UInt8,x≠92->uI x=true->uP (x::r)=0:=λx U R=>by rw[a3R,aOd R,aOi (λh=>U h.1)]
  refine⟨?_,?_,?_,?_⟩<;>(rintro rfl;exact F (this _ pO pO))
 obtain⟨e1,e2,e3,e4⟩:=I;rw[aOd pQ,aOd ⟨pN,pN,pN⟩,UP,aOi e1,aOi e2,aOi (show¬(false=true) by simp),aOi e3,aOi e4,aOi F,aOi (show¬((1:Int)=0\/(1:Int)=3/\d=0) from λh=>h.elim (λh=>by cases h) λh=>by cases h.1)]
def tA:Nat->Bool
 |0=>false
 |n+1=> !tA n
def gv (c:UInt8):Bool:=decide (c=32)||decide (c=9)||decide (c=10)
def BI (k:Int) (d:Nat):Nat:=if k=2 then d+1 else if k=3 then d-1 else d
abbrev rS:Type:=Int×pJ×Int×Int×Unit
def xA:Nat->pJ->Nat->Nat->Option (List rS)
 |0,_,_,_=>none
 |_+1,[],_,d=>if d=0 then some [] else none
 |n+1,c::r,j,d=>
  if tA d=true/\gv c=true then xA n r (j+1) d
  else if (t8 (tA d) (c::r)).1=0\/((t8 (tA d) (c::r)).1=3/\d=0) then none
  else(xA n ((c::r).drop (t8 (tA d) (c::r)).2.2) (j+(t8 (tA d) (c::r)).2.2) (BI (t8 (tA d) (c::r)).1 d)).map λl=>
   ((t8 (tA d) (c::r)).1,(t8 (tA d) (c::r)).2.1,(j:Int),((j+(t8 (tA d) (c::r)).2.2:Nat):Int),())::l
def zM:Nat->List Bool
 |0=>[]
 |d+1=>zM d++[tA d]
def LG: ∀d,(zM d).length=d
 |0=>rfl
 |d+1=>by rw[zM,aOg,LG d];rfl
def XY (o:List rS):Option (List rS)->(List rS×List Bool×Nat)⊕(List rS×Int×Int)->Prop
 |some l,w=>w= .inl (o++l,[],0)
 |none,w=>(∃a,w= .inr ([],a,3))\/∃o' m k,w= .inl (o',m,k)/\0<k
def XY.cons {o:List rS}{t:rS}{x:Option (List rS)}{w}(h:XY (o++[t]) x w):XY o (x.map (t:: ·)) w:=by
 cases x with
 |none=>exact h
 |some l=>show w=_;rw[show w=_ from h,aOk];rfl
def a3Z {s:pJ}{j:Nat}(z:j<s.length):((((r7 s (j:Int))=(32:Int))||((r7 s (j:Int))=(9:Int)))||((r7 s (j:Int))=(10:Int)))=gv s[j]:=by
 have F:=zE z 32 pO;have E:=zE z 9 pO;have D:=zE z 10 pO;rw[show ((32:Nat):Int)=32 from rfl] at F;rw[show ((9:Nat):Int)=9 from rfl] at E;rw[show ((10:Nat):Int)=10 from rfl] at D;rw[F,E,D];rfl
def ys (s:pJ) (Z:s.length<=4000): ∀(n j d:Nat) (o:List rS),s.length<=j+n->j<=s.length->d<=j->o.length<=j->
  ∃w,rC (KS s) (o,(j:Int),tA d,zM d,d)=some w/\XY o (xA (n+1) (s.drop j) j d) w
 |n,j,d,o,hn,hj,hd,ho=>by
  by_cases D:j<s.length
  .cases n with
   |zero=>omega
   |succ n=>
    have hD:s.drop j=s[j]::s.drop (j+1):=aOx D;have Q:s8 s (j:Int) (s.length:Int)=s.drop j:=FO;have M:fit (s.drop j):=by unfold fit;rw[aON];omega
    have V:s.drop j≠[]:=λh=>by have:=aOI List.length h;simp at this;omega
    have U:=aH4 (s.drop j) M (tA d) V;have R:=yr (tA d) (s.drop j);rw[aON] at R;rw[sZ];unfold KS;simp only;rw[aOd (sG D),aOd (λ_=>rP D),aOd (λ_=>rP D),aOd (λ_=>rP D),a3Z D,Q,U];by_cases hb:tA d=true/\gv s[j]=true
    .rw[aOd (by rw[hb.1,hb.2];rfl),aOd (s5 pN),hD,xA,aOd hb];have:=ys s Z n (j+1) d o pN pN pN pN;rw[Int.natCast_add,Int.natCast_one] at this;exact this
    rw[aOi aQo,aOd ⟨pN,pN,aPf _⟩,aOc];have I:xA (n+1+1) (s.drop j) j d=if (t8 (tA d) (s.drop j)).1=0\/((t8 (tA d) (s.drop j)).1=3/\d=0) then none
      else(xA (n+1) ((s.drop j).drop (t8 (tA d) (s.drop j)).2.2) (j+(t8 (tA d) (s.drop j)).2.2) (BI (t8 (tA d) (s.drop j)).1 d)).map λl=>
       ((t8 (tA d) (s.drop j)).1,(t8 (tA d) (s.drop j)).2.1,(j:Int),((j+(t8 (tA d) (s.drop j)).2.2:Nat):Int),())::l:=by
     rw[hD,xA,aOi hb]
    rw[I];obtain⟨K,Y⟩: ∃K,t8 (tA d) (s.drop j)=K:=⟨_,rfl⟩;rw[Y] at R|-;obtain⟨k,t,z⟩:=K;simp only at R|-;have hx:(rD (σ:=Bool) (if (decide (k=(0:Int)))=true then some (decide (k=(0:Int))) else some ((k=(3:Int))&&(((d:Nat):Int)=(0:Int)))) λO=>if O=true then some (.inr (.inr (.inr ((([]:List rS),(j:Int),(3:Int)))))) else
      if (decide (k=(2:Int)))=true then(if (d+([tA d]:List Bool).length)*1<=140737488355328 then some (.inl ((!tA d),(zM d++([tA d]:List Bool)),((zM d++([tA d]:List Bool)).length))) else none)
      else if (decide (k=(3:Int)))=true then(if qH (((d:Nat):Int)- (1:Int)) then(if 0<=(((d:Nat):Int)- (1:Int))/\(((d:Nat):Int)- (1:Int))<((d:Nat):Int) then(if qH (((d:Nat):Int)- (1:Int)) then(if 0<=(((d:Nat):Int)- (1:Int))/\(((d:Nat):Int)- (1:Int))<=((d:Nat):Int) then some (.inl ((qI .bool (zM d) (((d:Nat):Int)- (1:Int))),(List.take (Int.toNat (((d:Nat):Int)- (1:Int))) (zM d)),(Int.toNat (((d:Nat):Int)- (1:Int))))) else none) else none) else none) else none)
      else some (.inl (tA d,zM d,d)):Option ((Bool×List Bool×Nat)⊕((List rS×Int×Bool×List Bool×Nat)⊕((List rS×List Bool×Nat)⊕(List rS×Int×Int)))))=
      some (if k=0\/(k=3/\d=0) then .inr (.inr (.inr ([],(j:Int),3))) else .inl (tA (BI k d),zM (BI k d),BI k d)):=by
     unfold rD BI;by_cases k0:k=0
     .subst k0;rfl
     rw[aOi (by simpa using k0),aOc];by_cases k3:k=3
     .subst k3;cases d with
      |zero=>rfl
      |succ d=>
       rw[aOi pQ,aOi pP,aOd pP,aOd aQF,aOd ⟨pN,pN⟩,aOd aQF,aOd ⟨pN,pN⟩];have e1:(((d+1:Nat):Int)-1)=(d:Int):=by omega
       rw[e1,aOV,uX aQL];have e2:(zM (d+1))[d]'aQL=tA d:=by
        simp only[zM];rw[List.getElem_append_right aQL];simp [LG]
       have e3:(zM (d+1)).take d=zM d:=by
        rw[zM,aPQ aQL,List.take_of_length_le aQL]
       rw[e2,e3];simp
     rw[aOi (by simp [k3])];by_cases k2:k=2
     .subst k2;rw[aOd pP,aOd pQ];have e1:(zM d++[tA d]).length=d+1:=by rw[aOg,LG];rfl
      rw[e1,aOi pP];simp [zM,tA]
     rw[aOi (by simpa using k2),aOi (by simpa using k3),aOi (by simp [k0,k3])];simp [k2,k3]
    have F:=aOI (λq=>sK q fun(x:Bool×List Bool×Nat)=>if qH ((j:Int)+((z:Nat):Int)) then(if (o.length+([(k,(t,((j:Int),(((j:Int)+((z:Nat):Int)),()))))]:List rS).length)*40<=140737488355328 then(if qH ((j:Int)+((z:Nat):Int)) then some (.inl ((o++([(k,(t,((j:Int),(((j:Int)+((z:Nat):Int)),()))))]:List rS)),((j:Int)+((z:Nat):Int)),x.1,x.2.1,x.2.2)) else none) else none) else(none:Option ((List rS×Int×Bool×List Bool×Nat)⊕((List rS×List Bool×Nat)⊕(List rS×Int×Int))))) hx;by_cases E:k=0\/(k=3/\d=0)
    .rw[aOd E] at F|-;refine⟨.inr ([],(j:Int),3),?_,.inl ⟨_,rfl⟩⟩;refine Eq.trans (aOI (λq=>Option.bind q _) F) ?_;rfl
    rw[aOi E] at F|-;have hz:=R.2 (λh=>E (.inl h));have X:BI k d<=j+z:=by unfold BI;split;omega;split<;>omega
    obtain⟨w,w1,w2⟩:=ys s Z n (j+z) (BI k d) (o++[(k,t,(j:Int),((j+z:Nat):Int),())]) pN pN X aQM;refine⟨w,?_,?_⟩
    .refine Eq.trans (aOI (λq=>Option.bind q _) F) ?_;unfold sK;rw[aOc];simp only;rw[aOd aQF,aOd aQN,aOd aQF,aOc];simp only;rw[Int.natCast_add] at w1;exact w1
    rw[aPj];exact XY.cons w2
  have:j=s.length:=by omega
  subst this;refine⟨.inl (o,zM d,d),?_,?_⟩
  .rw[sZ];unfold KS;simp only;rw[aOi (sL _)];rfl
  rw[aOQ,xA];by_cases G:d=0
  .subst G;rw[aOd rfl];show _=_;rw[List.append_nil];rfl
  rw[aOi G];exact .inr ⟨_,_,_,rfl,pN⟩
def aH7 (s:pJ) (z:s.length<=4000): ∃l a e,PO s=some (l,a,e)/\(∀t,xA (s.length+1) s 0 0=some t->l=t/\a=0/\e=0)/\(xA (s.length+1) s 0 0=none->e=3):=by
 unfold PO;rw[aOi pQ];obtain⟨w,w1,w2⟩:=ys s z s.length 0 0 [] pN pN pN pP;rw[aOP] at w2;rw[show rC (KS s) (([]:List rS),(0:Int),false,([]:List Bool),0)=some w from w1];cases j:xA (s.length+1) s 0 0 with
 |some l=>
  rw[j] at w2;rw[show w=_ from w2];exact⟨l,0,0,by simp [sK],λt h=>(by cases h;exact⟨rfl,rfl,rfl⟩),λh=>aQy⟩
 |none=>
  rw[j] at w2;rcases w2 with⟨a,rfl⟩ |⟨o',m,k,rfl,hk⟩
  .exact⟨[],a,3,rfl,λt h=>aQy,λ_=>rfl⟩
  refine⟨[],(s.length:Int),3,?_,λt h=>aQy,λ_=>rfl⟩;show (if decide ((0:Int)<((k:Nat):Int))=true then _ else _:Option (List rS×Int×Int))=_;rw[aOd aQi]
def XZ (o:List rS):Option (List rS)->(List rS×Int)⊕(List rS×Int×Int)->Prop
 |some l,w=>w= .inl (o++l,0)
 |none,w=>(∃a,w= .inr ([],a,3))\/∃o' k,w= .inl (o',k)/\0<k
def XZ.cons {o:List rS}{t:rS}{x:Option (List rS)}{w}(h:XZ (o++[t]) x w):XZ o (x.map (t:: ·)) w:=by
 cases x with
 |none=>exact h
 |some l=>show w=_;rw[show w=_ from h,aOk];rfl
def a30: ∀d:Nat,decide ((Int.tmod (d:Int) (2:Int))=(1:Int))=tA d
 |0=>rfl
 |d+1=>by
  have ih:=a30 d;have e1:Int.tmod ((d+1:Nat):Int) 2=(((d+1) %2:Nat):Int):=rfl;have e2:Int.tmod (d:Int) 2=((d%2:Nat):Int):=rfl;rw[e2] at ih;rw[e1,tA,<-ih,aOE];simp;omega
def yu (s:pJ) (Y:s.length<=4000): ∀(n j d:Nat) (o:List rS),s.length<=j+n->j<=s.length->d<=j->o.length<=j->
  ∃w,rC (KP s) (o,(j:Int),(d:Int))=some w/\XZ o (xA (n+1) (s.drop j) j d) w
 |n,j,d,o,hn,hj,hd,Z=>by
  by_cases E:j<s.length
  .cases n with
   |zero=>omega
   |succ n=>
    have hD:s.drop j=s[j]::s.drop (j+1):=aOx E;have Q:fit s:=by unfold fit;omega
    have U:=yr (tA d) (s.drop j);rw[aON] at U;rw[sZ];unfold KP;simp only;rw[aOd (sG E),aOd (λ_=>rP E),a30,a3Z E];by_cases hb:tA d=true/\gv s[j]=true
    .rw[aOd (by rw[hb.1,hb.2];rfl),aOd (s5 pN),hD,xA,aOd hb];have:=yu s Y n (j+1) d o pN pN pN pN;rw[Int.natCast_add,Int.natCast_one] at this;exact this
    rw[aOi aQo];have R:xA (n+1+1) (s.drop j) j d=if (t8 (tA d) (s.drop j)).1=0\/((t8 (tA d) (s.drop j)).1=3/\d=0) then none
      else(xA (n+1) ((s.drop j).drop (t8 (tA d) (s.drop j)).2.2) (j+(t8 (tA d) (s.drop j)).2.2) (BI (t8 (tA d) (s.drop j)).1 d)).map λl=>
       ((t8 (tA d) (s.drop j)).1,(t8 (tA d) (s.drop j)).2.1,(j:Int),((j+(t8 (tA d) (s.drop j)).2.2:Nat):Int),())::l:=by
     rw[hD,xA,aOi hb]
    rw[R];have I:(if tA d=true then(P9 s (j:Int)).bind λO=>some ((O.1,O.2.1,O.2.2.1,O.2.2.2)) else(PA s (j:Int) (d:Int)).bind λa8=>some ((a8.1,a8.2.1,a8.2.2.1,a8.2.2.2)))=
      some (if (t8 (tA d) (s.drop j)).1=0\/((t8 (tA d) (s.drop j)).1=3/\d=0) then((0:Int),([]:pJ),(0:Int),(0:Int)) else((t8 (tA d) (s.drop j)).1,(t8 (tA d) (s.drop j)).2.1,(j:Int),((j+(t8 (tA d) (s.drop j)).2.2:Nat):Int))):=by
     cases Z:tA d with
     |true=>
      have G:d≠0:=by rintro rfl;cases Z
      rw[aOd rfl,aH5 s Q j E,aOc];simp only[G,and_false,or_false]
     |false=>
      rw[aOi pP,aH6 s Q j E d,aOc]
    rw[I];obtain⟨K,X⟩: ∃K,t8 (tA d) (s.drop j)=K:=⟨_,rfl⟩;rw[X] at U|-;obtain⟨k,t,z⟩:=K;simp only at U|-;unfold rD;rw[aOc];by_cases D:k=0\/(k=3/\d=0)
    .rw[aOd D,aOd D];exact⟨.inr ([],(j:Int),3),rfl,.inl ⟨_,rfl⟩⟩
    rw[aOi D,aOi D];simp only;have M: ¬k=0:=λh=>D (.inl h);have hz:=U.2 M;have V:BI k d<=j+z:=by unfold BI;split;omega;split<;>omega
    obtain⟨w,w1,w2⟩:=yu s Y n (j+z) (BI k d) (o++[(k,t,(j:Int),((j+z:Nat):Int),())]) pN pN V aQM;refine⟨w,?_,?_⟩
    .rw[aOi (by simpa using M)];have F:(o.length+([(k,(t,((j:Int),(((j+z:Nat):Int),()))))]:List rS).length)*40<=140737488355328:=by simp only[aOe,aOh];omega
     unfold BI at w1;by_cases k2:k=2
     .rw[aOd (by simpa using k2),aOd aQF,aOd F,aOc];rw[aOd k2,Int.natCast_add d 1] at w1;exact w1
     rw[aOi (by simpa using k2)];rw[aOi k2] at w1;by_cases k3:k=3
     .have hc:d≠0:=λh=>D (.inr ⟨k3,h⟩);rw[aOd (by simpa using k3),aOd aQF,aOd F,aOc];rw[aOd k3,show ((d-1:Nat):Int)=(d:Int)-1 by omega] at w1;exact w1
     rw[aOi (by simpa using k3),aOd F,aOc];rw[aOi k3] at w1;exact w1
    rw[aPj];exact XZ.cons w2
  have:j=s.length:=by omega
  subst this;refine⟨.inl (o,(d:Int)),?_,?_⟩
  .rw[sZ];unfold KP;simp only;rw[aOi (sL _)];rfl
  rw[aOQ,xA];by_cases G:d=0
  .subst G;rw[aOd rfl];show _=_;rw[List.append_nil];rfl
  rw[aOi G];exact .inr ⟨_,_,rfl,pN⟩
def aH8 (s:pJ) (z:s.length<=4000): ∃l a e,PD s=some (l,a,e)/\(∀t,xA (s.length+1) s 0 0=some t->l=t/\a=0/\e=0)/\(xA (s.length+1) s 0 0=none->e=3/\l=[]):=by
 unfold PD;rw[aOi pQ];obtain⟨w,w1,w2⟩:=yu s z s.length 0 0 [] pN pN pN pP;rw[aOP] at w2;rw[show rC (KP s) (([]:List rS),(0:Int),(0:Int))=some w from w1];cases j:xA (s.length+1) s 0 0 with
 |some l=>
  rw[j] at w2;rw[show w=_ from w2];exact⟨l,0,0,by simp [sK],λt h=>(by cases h;exact⟨rfl,rfl,rfl⟩),λh=>aQy⟩
 |none=>
  rw[j] at w2;rcases w2 with⟨a,rfl⟩ |⟨o',k,rfl,hk⟩
  .exact⟨[],a,3,rfl,λt h=>aQy,λ_=>⟨rfl,rfl⟩⟩
  refine⟨[],(s.length:Int),3,?_,λt h=>aQy,λ_=>⟨rfl,rfl⟩⟩;show (if decide ((0:Int)<k)=true then _ else _:Option (List rS×Int×Int))=_;rw[aOd aQi]
def UQ (c:Int):Bool:=(decide (97<=c)&&decide (c<=122))||(decide (65<=c)&&decide (c<=90))
def IP (s:pJ):Bool:=(s.all λb=>UQ b.toNat)&&(decide (1<=s.length)&&decide (s.length<=40))
def yv (s:pJ) (j:fit s):K4 s=some (IP s):=by
 unfold fit at j;have h:=yQ (f:=NK s) (l:=s) (λb=> !UQ b.toNat) (λ_=>false) (λi h=>by
  unfold NK;rw[aOd (sG h),aOd (rP h),wJ h,aOd (s5 pN)];congr 1;rw[aOE];simp only[UQ];generalize (s[i].toNat:Int)=c;simp<;>omega) (by
  unfold NK;rw[aOi (sL _)])
 unfold K4;rw[h,BG,GR];unfold IP;cases s.all λb=>UQ b.toNat with
 |false=>rfl
 |true=>
  show some ((!decide (s=[]))&&decide ((s.length:Int)<=40))=some ((true:Bool)&&_);rw[Bool.true_and];congr 2
  .rw[aOE];simp;exact aP1.symm
  rw[aOE];simp;omega
def a32 (s:pJ) (j:fit s):EM s=some (IP s):=by
 unfold fit at j;have h:=yQ (f:=NN s) (l:=s) (λb=> !UQ b.toNat) (λ_=>false) (λi h=>by
  unfold NN;rw[aOd (sG h),aOd (rP h),wJ h,aOd (s5 pN)];rfl) (by
  unfold NN;rw[aOi (sL _)])
 unfold EM;rw[h,BG,GR];unfold IP;cases s.all λb=>UQ b.toNat with
 |false=>rfl
 |true=>
  show some (decide ((1:Int)<=s.length)&&decide ((s.length:Int)<=40))=some ((true:Bool)&&_);rw[Bool.true_and];congr 2<;>(rw[aOE];simp;omega)
def tX:List (pJ×Int):=[([110,117,109,98,101,114],3),([117,110,105,116],4),([100,97,116,101],5),([108,105,115,116],6),([112,108,117,114,97,108],7),([111,114,100,105,110,97,108],8),([115,101,108,101,99,116],9)]
abbrev aH9:List (pJ×Int):=rN .str (.int .i64) Qa0 (9:Int) (rN .str (.int .i64) Qa1 (8:Int) (rN .str (.int .i64) Qa2 (7:Int) (rN .str (.int .i64) Qa3 (6:Int) (rN .str (.int .i64) Qa4 (5:Int) (rN .str (.int .i64) Qa5 (4:Int) (rN .str (.int .i64) Qa6 (3:Int) ([]:List (pJ×Int))))))))
def aIa:aH9=tX:=by kernel_rfl
def wE (s:pJ):Int:=sC .str (.int .i64) tX s
def a33 (s:pJ):wE s=0\/∃i:Nat,i<7/\wE s=i+3:=by
 unfold wE tX;simp only[sC]
 repeat' split
 all_goals first|exact .inr ⟨0,pN,rfl⟩ |exact .inr ⟨1,pN,rfl⟩ |exact .inr ⟨2,pN,rfl⟩ |exact .inr ⟨3,pN,rfl⟩ |exact .inr ⟨4,pN,rfl⟩ |exact .inr ⟨5,pN,rfl⟩ |exact .inr ⟨6,pN,rfl⟩ |exact .inl rfl
abbrev gw:pK:=[Qa6,Qa5,Qa4,Qa3,Qa2,Qa1,Qa0]
def aIb (s:pJ):NQ s=some (wE s):=by
 have h:=yQ (f:=NP s) (l:=gw) (λw=>decide (w=s)) (λk=>(3:Int)+k) (λi h=>by
  unfold NP;have hi:i<7:=h;rw[aOd (sG h),aOd (rP h),uX (t:= .str) h,aOd (show qH ((3:Int)+(i:Int)) by unfold qH;omega),aOd (show qH ((i:Int)+1) by unfold qH;omega)]) (by
  unfold NP;rw[aOi (sL _)])
 unfold NQ;rw[h];unfold wE tX;simp only[sC,wG,aPu,List.findIdx?_nil];have j: ∀w:pJ,decide (w=s)=decide (s=w):=λw=>by rw[aOE];simp [eq_comm]
 simp only[j]
 repeat' split
 all_goals first|rfl|simp_all [y4,sK,Ty.zero]
def UR (l:pK) (s:pJ) (j:l.length<=4000000000):zB l s=some (decide (s∈l)):=by
 have h:=yQ (f:=NJ l s) (l:=l) (λw=>decide (w=s)) (λ_=>true) (λi h=>by
  unfold NJ;rw[aOd (sG h),aOd (rP h),uX (t:= .str) h,aOd (s5 pN)]) (by
  unfold NJ;rw[aOi (sL _)])
 unfold zB;rw[h,BG];have:(l.any λw=>decide (w=s))=decide (s∈l):=by
  rw[aOE];simp
 rw[this];cases decide (s∈l)<;>rfl
def Q9 (c:Int):Bool:=decide (48<=c)&&decide (c<=57)
def DE (s:pJ):Bool:=s.all λb=>Q9 b.toNat
def FQ (s:pJ):Bool:=s.all λb=>decide (b=48)
def wM (c:UInt8):Bool:= !decide (c=46)
def yw (neg:Bool) (w f:pJ) (pt:Bool):Bool:=
 decide (1<=w.length)&&decide (w.length<=15)&&DE w&& !(decide (1<w.length)&&decide (w.head? =some 48))&& !(pt&&decide (f=[]))&&decide (f.length<=6)&&DE f&& !(neg&&(FQ w&&FQ f))
def US (neg:Bool) (u:pJ):Bool:=yw neg (u.take (s0 wM u)) (u.drop (s0 wM u+1)) (decide (s0 wM u<u.length))
def QA (t:pJ):Bool:=if t.head? =some 45 then US true (t.drop 1) else US false t
def yx {α:Type}{p:α->Bool}: ∀{l:List α},l.dropWhile p=[]↔l.all p=true
 |[]=>by simp
 |x::l=>by
  rw[List.dropWhile_cons,List.all_cons];cases h:p x with
  |true=>simp [yx (l:=l)]
  |false=>simp
def a34 (s cs:pJ):decide (Lib.trimS s cs=[])=s.all (cs.contains ·):=by
 have h:Lib.trimS s cs=[]↔s.all (cs.contains ·)=true:=by
  unfold Lib.trimS Lib.trimLeftS Lib.trimRightS;rw[yx];have D:((s.reverse.dropWhile (cs.contains ·)).reverse).all (cs.contains ·)=true↔s.reverse.dropWhile (cs.contains ·)=[]:=by
   rw[List.all_reverse];constructor
   .intro h;cases j:s.reverse.dropWhile (cs.contains ·) with
    |nil=>rfl
    |cons b r=>
     have hb:=List.head?_dropWhile_not (cs.contains ·) s.reverse;rw[j] at hb h;simp only[List.head?_cons,List.all_cons,aOo] at hb h;rw[h.1] at hb;cases hb
   intro h;rw[h];rfl
  rw[D,yx,List.all_reverse]
 cases hb:s.all (cs.contains ·) with
 |true=>exact aO4 (h.2 hb)
 |false=>exact decide_eq_false λz=>by rw[h.1 z] at hb;cases hb
def aIc (b:UInt8):Qb7.contains b=Q9 b.toNat:=by
 have: ∀n:Fin 256,Qb7.contains (UInt8.ofNat n.1)=Q9 ((UInt8.ofNat n.1).toNat:Int):=by decide
 have h:=this ⟨b.toNat,b.toNat_lt⟩;simpa using h
def aId (s:pJ):decide (Lib.trimS s Qb7=[])=DE s:=by
 rw[a34];unfold DE;congr 1;funext b;exact aIc b
def aIe (s:pJ):decide (Lib.trimS s Qb0=[])=FQ s:=by
 rw[a34];unfold FQ;congr 1;funext b;rw[aOE];simp
def a35 (x:UInt8) (t:pJ):GJ t [x]=some (if t.head? =some x then(t.drop 1,true) else(t,false)):=by
 unfold GJ SO SN;have F:((([x]:pJ).length:Nat):Int)=1:=rfl;rw[F];cases t with
 |nil=>rfl
 |cons a r=>
  have E:decide ((1:Int)<=((a::r).length:Int))=true:=by simp;omega
  have D:s8 (a::r) (0:Int) (1:Int)=[a]:=rfl;rw[aOd (λ_=>⟨pN,pN,by simp;omega⟩),E,D];have z:s8 (a::r) (1:Int) ((a::r).length:Int)=r:=by
   rw[show (1:Int)=((1:Nat):Int) from rfl,FO];rfl
  by_cases ha:a=x
  .subst ha;simp only[aOc,decide_true,Bool.and_self,Bool.not_true,aOT,aPq];rw[aOd ⟨pN,by simp;omega,aPf _⟩,z];simp
  have j:decide ([a]=([x]:pJ))=false:=by simpa using ha
  rw[j];simp [ha]
def a36 (x:UInt8): ∀(l:pJ),Lib.index l [x]=Q4 (l.findIdx? λb=>decide (b=x))
 |[]=>rfl
 |b::t=>by
  rw[Lib.index,aPu,a36 x t,a3C];have hp:([x]:pJ).isPrefixOf (b::t)=decide (b=x):=by
   simp only[List.isPrefixOf,Bool.and_true,a3B]
  rw[hp];by_cases h:b=x
  .rw[aOd aQe,aOd aQe];rfl
  rw[aOi aQe,aOi aQe]
def aIf (u:pJ) (D:fit u):O3 u [46]=some (u.take (s0 wM u),u.drop (s0 wM u+1),decide (s0 wM u<u.length)):=by
 unfold fit at D;unfold O3 X1 G7;have z:=gj wM u;have E:(λb=> !wM b)=λb=>decide (b=46):=by funext b;simp [wM]
 rw[E] at z;have G:=GS wM u;rw[a36,z,aOd pN];have F:((([46]:pJ).length:Nat):Int)=1:=rfl;rw[F];by_cases j:s0 wM u<u.length
 .rw[aOd j];show (Option.bind (if decide ((0:Int)<=((s0 wM u:Nat):Int))=true then _ else _) _:Option (pJ×pJ×Bool))=_;have e1:Q4 (some (s0 wM u))=((s0 wM u:Nat):Int):=rfl;rw[aOd pP,e1,aOd ⟨pN,pN,pN⟩,aOd aQF,aOd ⟨pN,pN,aPf _⟩,UG,show ((s0 wM u:Nat):Int)+1=((s0 wM u+1:Nat):Int) by omega,FO];simp [j]
 rw[aOi j];have e1:Q4 none= -1:=rfl;rw[e1,aOi pP,aOc];have e2:s0 wM u=u.length:=by omega
 rw[e2,List.take_length,List.drop_eq_nil_of_le pN];simp
def a38 (w:pJ):decide (r7 w (0:Int)=(48:Int))=decide (w.head? =some 48):=by
 cases w with
 |nil=>rfl
 |cons a r=>
  have:=zE (s:=a::r) (i:=0) pP 48 pO;rw[show ((48:Nat):Int)=48 from rfl,show ((0:Nat):Int)=0 from rfl,show UInt8.ofNat 48=48 from rfl] at this;rw[this];simp
def a39 (s:pJ) (j:fit s):(HZ s).isSome=true:=by
 unfold fit at j;unfold HZ;rw[aOd ⟨pO,pO⟩,aOd pN];rfl
def a4a (s:pJ) (j:fit s):NU s=some ():=by
 unfold fit at j;unfold NU;rw[aOd ⟨pO,pO⟩,aOd pN]
def dnz (b:Bool) (w f:pJ) (j:fit w) (hf:fit f):(OG (b,(w,(f,())))).isSome=true:=by
 unfold OG;rw[a4a w j,aOc,aOd (λ_=>by rw[a4a f hf];rfl)];rfl
def a4b (t:pJ) (E:fit t):PB t=some (QA t):=by
 unfold fit at E;unfold PB XG;rw[a35,aOc];have key: ∀(neg:Bool) (u:pJ),fit u->(((O3 u ([46]:pJ)).bind λO=>
   if (((((O.1.length:Int)<(1:Int))||((15:Int)<(O.1.length:Int)))==false)=true->((HZ O.1)).isSome=true) then
    if (((((((O.1.length:Int)<(1:Int))||((15:Int)<(O.1.length:Int)))||(!((Lib.trimS O.1 Qb7)=([]:pJ))))==false)&&((decide ((1:Int)<(O.1.length:Int)))==true))=true->0<=(0:Int)/\(0:Int)<(O.1.length:Int)) then
     if (((((O.1.length:Int)<(1:Int))||((15:Int)<(O.1.length:Int)))||(!((Lib.trimS O.1 Qb7)=([]:pJ))))||(((1:Int)<(O.1.length:Int))&&((r7 O.1 (0:Int))=(48:Int))))=true then some ((neg,O.1,O.2.1,false))
     else if ((((O.2.2&&((O.2.1.length:Int)=(0:Int)))||((6:Int)<(O.2.1.length:Int)))==false)=true->((HZ O.2.1)).isSome=true) then
      if (((O.2.2&&((O.2.1.length:Int)=(0:Int)))||((6:Int)<(O.2.1.length:Int)))||(!((Lib.trimS O.2.1 Qb7)=([]:pJ))))=true then some ((neg,O.1,O.2.1,false))
      else if (((!neg)==false)=true->((OG (neg,(O.1,(O.2.1,()))))).isSome=true) then
       some ((neg,O.1,O.2.1,((!neg)||(!(((Lib.trimS O.1 Qb0)=([]:pJ))&&((Lib.trimS O.2.1 Qb0)=([]:pJ)))))))
      else none
     else none
    else none
   else(none:Option (Bool×pJ×pJ×Bool))).bind λa8=>some (a8.2.2.2))=some (US neg u):=by
  intro neg u D;rw[aIf u D,aOc];have j:fit (u.take (s0 wM u)):=by unfold fit at D|-;rw[aO2];omega
  have z:fit (u.drop (s0 wM u+1)):=by unfold fit at D|-;rw[aON];omega
  unfold US;generalize u.take (s0 wM u)=w at j;generalize u.drop (s0 wM u+1)=f at z;generalize decide (s0 wM u<u.length)=pt;simp only[aId,aIe];rw[aOd (λ_=>a39 w j)];have c1:decide ((w.length:Int)<1)= !decide (1<=w.length):=by rw[aOE,aOt,aO1,aO6];omega
  have c2:decide ((15:Int)<(w.length:Int))= !decide (w.length<=15):=by rw[aOE];simp;omega
  have c3:decide ((1:Int)<(w.length:Int))=decide (1<w.length):=by rw[aOE];simp;omega
  have c4:decide ((f.length:Int)=0)=decide (f=[]):=by rw[aOE];simp
  have c5:decide ((6:Int)<(f.length:Int))= !decide (f.length<=6):=by rw[aOE];simp;omega
  rw[c1,c2,c3,c4,c5];unfold yw;by_cases G:1<=w.length
  .rw[aOd (λ_=>⟨pN,pN⟩),a38];cases decide (1<=w.length)<;>cases decide (w.length<=15)<;>cases DE w<;>cases decide (1<w.length)<;>cases decide (w.head? =some 48)<;>simp only[Bool.not_true,Bool.not_false,Bool.or_true,Bool.true_or,Bool.or_false,Bool.false_or,Bool.and_true,Bool.and_false,Bool.true_and,aPC,aPl,aOT,aPq,aOc,Option.bind]
   all_goals
    rw[aOd (λ_=>a39 f z)];cases pt<;>cases decide (f=[])<;>cases decide (f.length<=6)<;>cases DE f<;>simp only[Bool.not_true,Bool.not_false,Bool.or_true,Bool.true_or,Bool.or_false,Bool.false_or,Bool.and_true,Bool.and_false,Bool.true_and,aPC,aPl,aOT,aPq]
   all_goals
    rw[aOd (λ_=>dnz neg w f j z)];cases neg<;>simp
  have F:decide (1<=w.length)=false:=by simpa using G
  rw[F,aOd (λh=>by simp at h),aOd pP];rfl
 unfold QA;by_cases h:t.head? =some 45
 .rw[aOd h,aOd h];exact key true (t.drop 1) (by unfold fit;rw[aON];omega)
 rw[aOi h,aOi h];exact key false t E
def aIh (s:pJ) (j:fit s):SQ s=some (DE s):=by
 unfold fit at j;have h:=yQ (f:=NR s) (l:=s) (λb=> !Q9 b.toNat) (λ_=>false) (λi h=>by
  unfold NR;rw[aOd (sG h),aOd (rP h),aOd (λ_=>rP h),wJ h,aOd (s5 pN)];congr 1;rw[aOE];simp only[Q9];generalize (s[i].toNat:Int)=c;simp<;>omega) (by
  unfold NR;rw[aOi (sL _)])
 unfold SQ;rw[h,BG,GR];show _=some (s.all λb=>Q9 b.toNat);cases s.all λb=>Q9 b.toNat<;>rfl
def a4c (s:pJ) (j:fit s):NT s=some (FQ s):=by
 unfold fit at j;have h:=yQ (f:=NS s) (l:=s) (λb=> !decide (b=48)) (λ_=>false) (λi h=>by
  unfold NS;have hb:=zE h 48 pO;rw[show ((48:Nat):Int)=48 from rfl,show UInt8.ofNat 48=48 from rfl] at hb;rw[aOd (sG h),aOd (rP h),hb,aOd (s5 pN)]) (by
  unfold NS;rw[aOi (sL _)])
 unfold NT;rw[h,BG,GR];show _=some (s.all λb=>decide (b=48));cases s.all λb=>decide (b=48)<;>rfl
def aIi (s:pJ) (j:fit s):rC (T6 s) 0=some ((s0 wM s:Nat):Int):=by
 unfold fit at j;have h:=gm (f:=T6 s) (s:=s) wM (λi h=>by
  unfold T6;have hb:=zE h 46 pO;rw[show ((46:Nat):Int)=46 from rfl,show UInt8.ofNat 46=46 from rfl] at hb;rw[aOd (λ_=>rP h),hb,aOd (s5 pN),sG h];rfl) (by
  unfold T6;rw[aOd (λh=>absurd h pP),aOi pP]) s.length 0 pN
 rw[show ((0:Nat):Int)=0 from rfl] at h;rw[h];simp
def a4d (t:pJ) (R:fit t):P1 t=some (QA t):=by
 unfold fit at R;unfold P1 X8;rw[aOd (λh=>⟨aPf _,by simpa using h⟩)];have E:(if (((0:Int)<(t.length:Int))&&((r7 t (0:Int))=(45:Int)))=true then(if 0<=(1:Int)/\(1:Int)<=(t.length:Int)/\(t.length:Int)<=(t.length:Int) then some (((s8 t (1:Int) (t.length:Int)),true)) else none) else some ((t,false)))=some (if t.head? =some 45 then(t.drop 1,true) else(t,false)):=by
  cases t with
  |nil=>rfl
  |cons a r=>
   have hb:=Q8 (c:=a) (r:=r) 45 pO;rw[show ((45:Nat):Int)=45 from rfl,show UInt8.ofNat 45=45 from rfl] at hb;have h0:decide ((0:Int)<((a::r).length:Int))=true:=aO4 aQm;have X:s8 (a::r) (1:Int) ((a::r).length:Int)=(a::r).drop 1:=by rw[show (1:Int)=((1:Nat):Int) from rfl,FO]
   have V:(0:Int)<=1/\(1:Int)<=((a::r).length:Int)/\((a::r).length:Int)<=((a::r).length:Int):=⟨pN,by simp only[aOe];omega,aPf _⟩;rw[hb,h0,Bool.true_and,X];by_cases h:a=45
   .rw[aOd (show decide (a=45)=true by simpa using h),aOd V,aOd (show (a::r).head? =some 45 by simpa using h)]
   rw[aOi (show¬decide (a=45)=true by simpa using h),aOi (show¬(a::r).head? =some 45 by simpa using h)]
 rw[E];unfold rD;rw[aOc];obtain⟨q,F⟩: ∃q:pJ×Bool,(if t.head? =some 45 then(t.drop 1,true) else(t,false))=q:=⟨_,rfl⟩;have D:QA t=US q.2 q.1:=by
  rw[<-F];unfold QA;split<;>rfl
 have z:fit q.1:=by
  rw[<-F];unfold fit;split<;>(try rw[aON])<;>omega
 rw[F,D];obtain⟨u,neg⟩:=q;simp only at z|-;rw[aIi u z,aOc];have Q:=z;unfold fit at Q;have K:=GS wM u;rw[aOd ⟨pN,pN,pN⟩,UG];unfold US;obtain⟨p,hp⟩: ∃p,s0 wM u=p:=⟨_,rfl⟩;rw[hp] at K|-;have M:fit (u.take p):=by unfold fit;rw[aO2];omega
 have O:fit (u.drop (p+1)):=by unfold fit;rw[aON];omega
 have I:(if (decide ((p:Int)<(u.length:Int)))=true then(if qH ((p:Int)+(1:Int)) then(if 0<=((p:Int)+(1:Int))/\((p:Int)+(1:Int))<=(u.length:Int)/\(u.length:Int)<=(u.length:Int) then(if (decide (((s8 u ((p:Int)+(1:Int)) (u.length:Int)).length:Int)=(0:Int)))=true then some (.inr ((false,([]:pJ),([]:pJ),false))) else some (.inl (s8 u ((p:Int)+(1:Int)) (u.length:Int)))) else none) else none) else some (.inl ([]:pJ)))=
   some (if (decide (p<u.length)&&decide (u.drop (p+1)=[]))=true then .inr (false,([]:pJ),([]:pJ),false) else(.inl (u.drop (p+1)):pJ⊕(Bool×pJ×pJ×Bool))):=by
  by_cases h:p<u.length
  .rw[aOd (sG h),aOd (s5 pN),aOd ⟨pN,pN,aPf _⟩,show ((p:Int)+1)=((p+1:Nat):Int) by omega,FO];have D:decide (p<u.length)=true:=by simpa using h
   rw[D,Bool.true_and];by_cases G:u.drop (p+1)=[]
   .rw[G];rfl
   have Y:decide ((((u.drop (p+1)).length:Nat):Int)=0)=false:=by
    rw[aO6];intro e;exact G (aPo.1 pN)
   rw[Y,aOi pP,aOi (by simpa using G)]
  rw[aOi pQ];have D:decide (p<u.length)=false:=by simpa using h
  rw[D,List.drop_eq_nil_of_le pN];rfl
 rw[I];have j:fit (u.take p++u.drop (p+1)):=by unfold fit;rw[aOg,aO2,aON];omega
 generalize u.take p=w at M j;generalize u.drop (p+1)=f at O j;generalize decide (p<u.length)=pt;unfold sK yw;rw[aOc];cases Z:(pt&&decide (f=[])) with
 |true=>simp
 |false=>
  rw[aOi pP];simp only;have U:=j;unfold fit at U;have e1:DE (w++f)=(DE w&&DE f):=by unfold DE;rw[List.all_append]
  have e2:FQ (w++f)=(FQ w&&FQ f):=by unfold FQ;rw[List.all_append]
  rw[aOd pN,aIh _ j,aOc,aOd (λh=>⟨pN,by
   simp only[aOo,aP2,aOt] at h;omega⟩),aOd (λ_=>by omega),aOd (λ_=>by rw[a4c _ j];rfl),a4c _ j,uE,a38,e1,e2]
  have c1:decide ((w.length:Int)<1)= !decide (1<=w.length):=by rw[aOE,aOt,aO1,aO6];omega
  have c2:decide ((15:Int)<(w.length:Int))= !decide (w.length<=15):=by rw[aOE];simp;omega
  have c3:decide ((1:Int)<(w.length:Int))=decide (1<w.length):=by rw[aOE];simp;omega
  have c5:decide ((6:Int)<(f.length:Int))= !decide (f.length<=6):=by rw[aOE];simp;omega
  rw[c1,c2,c3,c5];cases decide (1<=w.length)<;>cases decide (w.length<=15)<;>cases DE w<;>cases DE f<;>cases decide (1<w.length)<;>cases decide (w.head? =some 48)<;>cases decide (f.length<=6)<;>cases neg<;>cases FQ w<;>cases FQ f<;>rfl
def gx (s:pJ):Bool:=decide (s=[122,101,114,111])||decide (s=[111,110,101])||decide (s=[116,119,111])||decide (s=[102,101,119])||decide (s=[109,97,110,121])||decide (s=[111,116,104,101,114])
def tN (k:Int) (s:pJ):Bool:=if k=9 then uT s else gx s||(decide (s.head? =some 61)&&QA (s.drop 1))
def aIj:QA []=false:=by decide
def aIk (s:pJ):NO s=gx s:=by
 unfold NO gx
 repeat' split
 all_goals simp_all
def gy (k:Int) (s:pJ) (j:fit s):DB k s=some (tN k s):=by
 unfold DB tN;by_cases hk:k=9
 .rw[aOd aQi,aOd hk,Q7 s j];rfl
 have z:fit (s.drop 1):=by unfold fit at j|-;rw[aON];omega
 rw[aOi aQi,aOi hk,a35,aOc,aIk];by_cases h:s.head? =some 61
 .rw[aOd h,aOd (λ_=>by rw[a4b _ z];rfl),a4b _ z,uE];simp [h]
 rw[aOi h,aOd (λh=>by simp at h)];simp [h]
def gz (k:Int) (s:pJ) (z:fit s):BF k s=some (tN k s):=by
 unfold BF tN;by_cases hk:k=9
 .rw[aOd aQi,aOd hk,LD s z];rfl
 have D:fit (s.drop 1):=by unfold fit at z|-;rw[aON];omega
 have j:s8 s (1:Int) (s.length:Int)=s.drop 1:=by rw[show (1:Int)=((1:Nat):Int) from rfl,FO]
 rw[aOi aQi,aOi hk,j,aOd (λh=>by
  simp only[aOo,aP2,aOt] at h;exact⟨pN,pN⟩),aOd (λh=>by
  simp only[aOo,aP2,aOt] at h;exact⟨pN,pN,aPf _⟩),aOd (λ_=>by rw[a4d _ D];rfl),a4d _ D,uE]
 show some (gx s||_)=_
 congr 2;cases s with
 |nil=>rfl
 |cons a r=>
  have hb:=Q8 (c:=a) (r:=r) 61 pO;rw[show ((61:Nat):Int)=61 from rfl,show UInt8.ofNat 61=61 from rfl] at hb;rw[hb];cases r with
  |nil=>
   rw[show ([a]:pJ).drop 1=[] from rfl,aIj,Bool.and_false,Bool.and_false]
  |cons b r=>
   rw[show decide ((1:Int)<((a::b::r).length:Int))=true by simp;omega];simp
def uL {α:Type}(x:α):(some x).isSome=true:=rfl
def s6:List rS->Int
 |[]=>0
 |t::_=>t.1
def tY:List rS->pJ
 |[]=>[]
 |t::_=>t.2.1
abbrev Nm:Type:=pS
section
variable {s:pJ}{L:List rS}{i:Nat}{a e k:Int}{m:Nm}
def A9 (h:i<L.length):qI sO L (i:Int)=L[i]:=uX (t:=sO) h
def vX:vU s L (i:Int) (a,(0,())) m=some (s6 (L.drop i)):=by
 unfold vU;by_cases h:i<L.length
 .rw[aOi pQ,aOd (rP h),A9 h,aOx h];rfl
 rw[aOd pQ,List.drop_eq_nil_of_le pN];rfl
def C8 (j:e≠0):vU s L (i:Int) (a,(e,())) m=some 0:=by
 unfold vU;rw[aOd aQG]
def BJ (x:Int): ∃a',vV s L (i:Int) (a,(0,())) x m=some (a',x):=by
 unfold vV WY;rw[aOd pP];by_cases h:i<L.length
 .rw[aOd (sG h),aOd (rP h)];exact⟨_,rfl⟩
 rw[aOi pQ];exact⟨_,rfl⟩
def GT (j:e≠0) (x:Int):vV s L (i:Int) (a,(e,())) x m=some (a,e):=by
 unfold vV;rw[aOi aQf]
def AA {t:rS}{r:List rS}(h:L.drop i=t::r) (z:L.length<=4000) (hk:t.1=k):sT s L (i:Int) (a,(0,())) k m=some (t.2.1,((i+1:Nat):Int),a,0):=by
 have hi:i<L.length:=by
  by_cases hi:i<L.length
  .exact hi
  rw[List.drop_eq_nil_of_le pN] at h;cases h
 have j:L[i]=t:=by rw[aOx hi] at h;exact(List.cons.inj h).1
 unfold sT;rw[vX,aOc,h];show (if (!decide (t.1=k))=true then _ else _:Option (pJ×Int×Int×Int))=_;rw[aOi aQi,aOd aQF,aOd aQF,aOd ⟨pN,pN⟩,show ((i:Int)+1-1)=(i:Int) by omega,A9 hi,j];rfl
def QB (hk:s6 (L.drop i)≠k): ∃a',sT s L (i:Int) (a,(0,())) k m=some ([],(i:Int),a',3):=by
 unfold sT;rw[vX,aOc,aOd aQi];obtain⟨a',h⟩:=BJ (s:=s) (L:=L) (i:=i) (a:=a) (m:=m) 3;rw[h];exact⟨a',rfl⟩
def yT (j:e≠0) (hk:k≠0):sT s L (i:Int) (a,(e,())) k m=some ([],(i:Int),a,e):=by
 unfold sT;rw[C8 j,aOc,aOd (by simpa using λh=>hk h.symm),GT j];rfl
def yy {d:Int}(h:d<=8):EO s L (i:Int) (a,(e,())) d m=some (a,e):=by
 unfold EO;rw[aOi aQe]
def yz {d:Int}(h:8<d): ∃a',EO s L (i:Int) (a,(0,())) d m=some (a',6):=by
 unfold EO;rw[aOd aQe];obtain⟨a',h⟩:=BJ (s:=s) (L:=L) (i:=i) (a:=a) (m:=m) 6;rw[h];exact⟨a',rfl⟩
end
section
variable {ts:List rS}{n a e k:Int}{ns:pK}
def wN: ∃x y,vG (ts,(n,(ns,(a,(e,())))))=some (s6 ts,tY ts,x,y):=by
 unfold vG;cases ts with
 |nil=>exact⟨_,_,rfl⟩
 |cons t r=>
  rw[aOi (by simp<;>omega),aOd ⟨pN,by simp<;>omega⟩]
  exact⟨_,_,rfl⟩
def GU (x:Int): ∃a',xZ (ts,(n,(ns,(a,(0,()))))) x=some (a',x):=by
 unfold xZ;rw[aOd pP];obtain⟨p,q,h⟩:=wN (ts:=ts) (n:=n) (ns:=ns) (a:=a) (e:=0);rw[h];exact⟨_,rfl⟩
def ia (j:e≠0) (x:Int):xZ (ts,(n,(ns,(a,(e,()))))) x=some (a,e):=by
 unfold xZ;rw[aOi aQf]
def DF {t:rS}{r:List rS}(h:ts=t::r) (hk:t.1=k):uH (ts,(n,(ns,(a,(0,()))))) k=some (t.2.1,r,a,0):=by
 subst h;unfold uH;obtain⟨p,q,h⟩:=wN (ts:=t::r) (n:=n) (ns:=ns) (a:=a) (e:=0);rw[h,aOc];unfold rD;rw[aOi (show¬(!decide (s6 (t::r)=k))=true by simp [s6,hk]),aOc];simp only;rw[aOi pP,aOd ⟨pN,by simp;omega,aPf _⟩];have:s8 (t::r) (1:Int) (((t::r).length:Nat):Int)=r:=by
  rw[show (1:Int)=((1:Nat):Int) from rfl,FO];rfl
 rw[this];rfl
def IQ (hk:s6 ts≠k): ∃a',uH (ts,(n,(ns,(a,(0,()))))) k=some ([],ts,a',3):=by
 unfold uH;obtain⟨p,q,h⟩:=wN (ts:=ts) (n:=n) (ns:=ns) (a:=a) (e:=0);obtain⟨a',j⟩:=GU (ts:=ts) (n:=n) (ns:=ns) (a:=a) 3;rw[h,aOc];unfold rD;rw[aOd aQi,j];exact⟨a',rfl⟩
def yU (j:e≠0):uH (ts,(n,(ns,(a,(e,()))))) k=some ([],ts,a,e):=by
 unfold uH;obtain⟨p,q,h⟩:=wN (ts:=ts) (n:=n) (ns:=ns) (a:=a) (e:=e);rw[h,aOc];unfold rD;have:(if (!decide (s6 ts=k))=true then(xZ (ts,(n,(ns,(a,(e,()))))) 3).bind λO=>some (O.1,O.2) else some (a,e))=some (a,e):=by
  rw[ia j];split<;>rfl
 refine Eq.trans (aOI (λq=>Option.bind q _) this) ?_;rw[aOc];simp only;rw[aOd aQf]
def za {d:Int}(h:d<=8):FK (ts,(n,(ns,(a,(e,()))))) d=some (a,e):=by
 unfold FK;rw[aOi aQe]
def zb {d:Int}(h:8<d): ∃a',FK (ts,(n,(ns,(a,(0,()))))) d=some (a',6):=by
 unfold FK;rw[aOd aQe];obtain⟨a',h⟩:=GU (ts:=ts) (n:=n) (ns:=ns) (a:=a) 6;rw[h];exact⟨a',rfl⟩
def Y0 {t:rS}{r:List rS}(h:ts=t::r) (hk:t.1=9):vR (ts,(n,(ns,(a,(0,()))))) true=some (t.2.1,r,a,0):=by
 unfold vR;obtain⟨p,q,j⟩:=wN (ts:=ts) (n:=n) (ns:=ns) (a:=a) (e:=0);rw[j,aOc,aOi (by subst h;simp [s6,hk]),DF h hk];rfl
def UT {b:Bool}(h:s6 ts≠9\/b=false): ∃a',vR (ts,(n,(ns,(a,(0,()))))) b=some ([],ts,a',3):=by
 unfold vR;obtain⟨p,q,z⟩:=wN (ts:=ts) (n:=n) (ns:=ns) (a:=a) (e:=0);obtain⟨a',j⟩:=GU (ts:=ts) (n:=n) (ns:=ns) (a:=a) 3;rw[z,aOc,aOd (by rcases h with h|h<;>simp [h]),j,aOc]
 simp only;rw[yU pO];exact⟨a',rfl⟩
def ib {b:Bool}(j:e≠0):vR (ts,(n,(ns,(a,(e,()))))) b=some ([],ts,a,e):=by
 unfold vR;obtain⟨p,q,z⟩:=wN (ts:=ts) (n:=n) (ns:=ns) (a:=a) (e:=e);rw[z,aOc];split
 .rw[ia j,aOc];simp only;rw[yU j];rfl
 rw[yU j];rfl
end
section
variable {s:pJ}{L:List rS}{i:Nat}{a e:Int}{m:Nm}
def vM {t:rS}{r:List rS}(h:L.drop i=t::r):i<L.length/\∀hi:i<L.length,L[i]=t:=by
 have hi:i<L.length:=by
  by_cases hi:i<L.length
  .exact hi
  rw[List.drop_eq_nil_of_le pN] at h;cases h
 exact⟨hi,λhi=>by rw[aOx hi] at h;exact(List.cons.inj h).1⟩
def hd9 (h:s6 (L.drop i)=9): ∃t r,L.drop i=t::r/\t.1=9:=by
 cases j:L.drop i with
 |nil=>rw[j] at h;cases h
 |cons t r=>rw[j] at h;exact⟨t,r,rfl,h⟩
def zc {t:rS}{r:List rS}(h:L.drop i=t::r) (D:L.length<=4000) (hk:t.1=9) (hf:fit t.2.1) (z:uT t.2.1=true):C5 s L (i:Int) (a,(0,())) m=some (t.2.1,((i+1:Nat):Int),a,0):=by
 obtain⟨hi,j⟩:=vM h;unfold C5;have E:s6 (L.drop i)=9:=by rw[h];exact hk
 rw[vX,aOc,E,aOd (λ_=>rP hi),A9 hi,j hi,Q7 _ hf,aOd (λ_=>uL _),uE,z,aOi pP,AA h D hk];rfl
def zd (hf: ∀t∈L,fit t.2.1) (h:s6 (L.drop i)≠9\/uT (tY (L.drop i))=false): ∃a',C5 s L (i:Int) (a,(0,())) m=some ([],(i:Int),a',3):=by
 obtain⟨a',E⟩:=BJ (s:=s) (L:=L) (i:=i) (a:=a) (m:=m) 3;unfold C5;rw[vX,aOc];by_cases z:s6 (L.drop i)=9
 .obtain⟨t,r,j,G⟩:=hd9 z;obtain⟨hi,D⟩:=vM j;have F:uT t.2.1=false:=by
   rcases h with h|h
   .exact absurd z h
   rw[j] at h;exact h
  rw[z,aOd (λ_=>rP hi),A9 hi,D hi,Q7 _ (hf t (by rw[<-D hi];exact aOm hi)),aOd (λ_=>uL _),uE,F,aOd pP,E];exact⟨a',rfl⟩
 have j:decide (s6 (L.drop i)=9)=false:=by simpa using z
 rw[j,aOd (λh=>by simp at h),aOd (λh=>by simp at h),aOd pP,E];exact⟨a',rfl⟩
def a4e (j:e≠0):C5 s L (i:Int) (a,(e,())) m=some ([],(i:Int),a,e):=by
 unfold C5;rw[C8 j,aOc,aOd (λh=>by simp at h),aOd (λh=>by simp at h),aOd pP,GT j];rfl
def aIl {t:rS}{r:List rS}(h:L.drop i=t::r) (D:L.length<=4000) (hk:t.1=9) (hf:fit t.2.1) (z:IP t.2.1=true):D9 s L (i:Int) (a,(0,())) m=some (t.2.1,((i+1:Nat):Int),a,0):=by
 obtain⟨hi,j⟩:=vM h;unfold D9;have E:s6 (L.drop i)=9:=by rw[h];exact hk
 rw[vX,aOc,E,aOd (λ_=>rP hi),A9 hi,j hi,yv _ hf,aOd (λ_=>uL _),uE,z,aOi pP,AA h D hk];rfl
def aIm (hf: ∀t∈L,fit t.2.1) (h:s6 (L.drop i)≠9\/IP (tY (L.drop i))=false): ∃a',D9 s L (i:Int) (a,(0,())) m=some ([],(i:Int),a',3):=by
 obtain⟨a',E⟩:=BJ (s:=s) (L:=L) (i:=i) (a:=a) (m:=m) 3;unfold D9;rw[vX,aOc];by_cases z:s6 (L.drop i)=9
 .obtain⟨t,r,j,G⟩:=hd9 z;obtain⟨hi,D⟩:=vM j;have F:IP t.2.1=false:=by
   rcases h with h|h
   .exact absurd z h
   rw[j] at h;exact h
  rw[z,aOd (λ_=>rP hi),A9 hi,D hi,yv _ (hf t (by rw[<-D hi];exact aOm hi)),aOd (λ_=>uL _),uE,F,aOd pP,E];exact⟨a',rfl⟩
 have j:decide (s6 (L.drop i)=9)=false:=by simpa using z
 rw[j,aOd (λh=>by simp at h),aOd (λh=>by simp at h),aOd pP,E];exact⟨a',rfl⟩
def aIn (j:e≠0):D9 s L (i:Int) (a,(e,())) m=some ([],(i:Int),a,e):=by
 unfold D9;rw[C8 j,aOc,aOd (λh=>by simp at h),aOd (λh=>by simp at h),aOd pP,GT j];rfl
def QC (s:pJ):Bool:=decide (s=[105,110,116,101,103,101,114])||decide (s=[112,101,114,99,101,110,116])
def aIo {t:rS}{r:List rS}(h:L.drop i=t::r) (D:L.length<=4000) (hk:t.1=9) (j:QC t.2.1=true):D8 s L (i:Int) (a,(0,())) m=some (t.2.1,((i+1:Nat):Int),a,0):=by
 obtain⟨hi,z⟩:=vM h;unfold D8;have E:s6 (L.drop i)=9:=by rw[h];exact hk
 unfold QC at j;rw[vX,aOc,E,aOd (λ_=>rP hi),A9 hi,z hi,j,aOi pP,AA h D hk];rfl
def aIp (h:s6 (L.drop i)≠9\/QC (tY (L.drop i))=false): ∃a',D8 s L (i:Int) (a,(0,())) m=some ([],(i:Int),a',3):=by
 obtain⟨a',E⟩:=BJ (s:=s) (L:=L) (i:=i) (a:=a) (m:=m) 3;unfold D8;rw[vX,aOc];by_cases z:s6 (L.drop i)=9
 .obtain⟨t,r,j,G⟩:=hd9 z;obtain⟨hi,F⟩:=vM j;have D:QC t.2.1=false:=by
   rcases h with h|h
   .exact absurd z h
   rw[j] at h;exact h
  unfold QC at D;rw[z,aOd (λ_=>rP hi),A9 hi,F hi,D,aOd pP,E];exact⟨a',rfl⟩
 have j:decide (s6 (L.drop i)=9)=false:=by simpa using z
 rw[j,aOd (λh=>by simp at h),aOd pP,E];exact⟨a',rfl⟩
def aIq (j:e≠0):D8 s L (i:Int) (a,(e,())) m=some ([],(i:Int),a,e):=by
 unfold D8;rw[C8 j,aOc,aOd (λh=>by simp at h),aOd pP,GT j];rfl
def aIr {t:rS}{r:List rS}(h:L.drop i=t::r) (E:L.length<=4000) (hk:t.1=9) (D:wE t.2.1≠0):EQ s L (i:Int) (a,(0,())) m tX=some (t.2.1,((i+1:Nat):Int),a,0):=by
 obtain⟨hi,j⟩:=vM h;unfold EQ;have F:s6 (L.drop i)=9:=by rw[h];exact hk
 have z:decide (sC .str (.int .i64) tX t.2.1=(0:Int))=false:=decide_eq_false D;rw[vX,aOc,F,aOd pP,aOd (λ_=>rP hi),A9 hi,j hi,z,aOi pP,AA h E hk];rfl
def aIs (h:s6 (L.drop i)≠9\/wE (tY (L.drop i))=0): ∃a',EQ s L (i:Int) (a,(0,())) m tX=some ([],(i:Int),a',3):=by
 obtain⟨a',D⟩:=BJ (s:=s) (L:=L) (i:=i) (a:=a) (m:=m) 3;unfold EQ;rw[vX,aOc];by_cases z:s6 (L.drop i)=9
 .obtain⟨t,r,j,I⟩:=hd9 z;obtain⟨hi,E⟩:=vM j;have G:wE t.2.1=0:=by
   rcases h with h|h
   .exact absurd z h
   rw[j] at h;exact h
  have F:decide (sC .str (.int .i64) tX t.2.1=(0:Int))=true:=aO4 G;rw[z,aOd pP,aOd (λ_=>rP hi),A9 hi,E hi,F,aOd pP,D];exact⟨a',rfl⟩
 have j:decide (s6 (L.drop i)=9)=false:=by simpa using z
 rw[j,aOi pP,aOd rfl,D];exact⟨a',rfl⟩
def aIt (j:e≠0):EQ s L (i:Int) (a,(e,())) m tX=some ([],(i:Int),a,e):=by
 unfold EQ;rw[C8 j,aOc,aOi pP,aOd rfl,GT j];rfl
def a4f (k:Int) (t:pJ) (hf:fit t):PI t k=some (tN k t):=by
 unfold PI;rw[gy k t hf];rfl
def aIu {t:rS}{r:List rS}{k:Int}(h:L.drop i=t::r) (D:L.length<=4000) (hk:t.1=9) (hf:fit t.2.1) (z:tN k t.2.1=true):ES s L (i:Int) (a,(0,())) k m=some (t.2.1,((i+1:Nat):Int),a,0):=by
 obtain⟨hi,j⟩:=vM h;unfold ES;have E:s6 (L.drop i)=9:=by rw[h];exact hk
 rw[vX,aOc,E,aOd pP,aOd (λ_=>rP hi),A9 hi,j hi,a4f _ _ hf,aOd (λ_=>uL _),uE,z,aOi pP,AA h D hk];rfl
def aIv {k:Int}(hf: ∀t∈L,fit t.2.1) (h:s6 (L.drop i)≠9\/tN k (tY (L.drop i))=false): ∃a',ES s L (i:Int) (a,(0,())) k m=some ([],(i:Int),a',3):=by
 obtain⟨a',E⟩:=BJ (s:=s) (L:=L) (i:=i) (a:=a) (m:=m) 3;unfold ES;rw[vX,aOc];by_cases z:s6 (L.drop i)=9
 .obtain⟨t,r,j,G⟩:=hd9 z;obtain⟨hi,D⟩:=vM j;have F:tN k t.2.1=false:=by
   rcases h with h|h
   .exact absurd z h
   rw[j] at h;exact h
  rw[z,aOd pP,aOd (λ_=>rP hi),A9 hi,D hi,a4f _ _ (hf t (by rw[<-D hi];exact aOm hi)),aOd (λ_=>uL _),uE,F,aOd pP,E];exact⟨a',rfl⟩
 have j:decide (s6 (L.drop i)=9)=false:=by simpa using z
 rw[j,aOi pP,aOd rfl,E];exact⟨a',rfl⟩
def aIw {k:Int}(j:e≠0):ES s L (i:Int) (a,(e,())) k m=some ([],(i:Int),a,e):=by
 unfold ES;rw[C8 j,aOc,aOi pP,aOd rfl,GT j];rfl
end
def vY:pJ->Option pJ
 |[]=>some []
 |[c]=>if uI c=true then none else some [c]
 |c::d::r=>if uI c=true then(if c=92/\uI d=true then(vY r).map (d:: ·) else none) else(vY (d::r)).map (c:: ·)
def UU (s:pJ):pJ:=(vY s).getD []
def ze: ∀s:pJ,(vY s).isSome=decide (uP s=s.length)
 |[]=>rfl
 |[c]=>by
  unfold vY uP;cases uI c<;>simp
 |c::d::r=>by
  unfold vY uP;have E:=ze r;have D:=ze (d::r);by_cases z:uI c=true
  .rw[aOd z,aOd z];by_cases j:c=92/\uI d=true
   .rw[aOd j,aOd j,Option.isSome_map,E,aOE];simp
   rw[aOi j,aOi j];simp
  rw[aOi z,aOi z,Option.isSome_map,D,aOE];simp only[aOe,aOt];omega
def a4g {s:pJ}{i:Nat}(h:i<s.length):vY (s.drop i)=if uI s[i]=true then(if s[i]=92/\DD (s.drop (i+1))=true then(vY (s.drop (i+2))).map (s.getD (i+1) 0:: ·) else none) else(vY (s.drop (i+1))).map (s[i]:: ·):=by
 rw[aOx h];by_cases j:i+1<s.length
 .rw[aOx j,vY];have e:s.getD (i+1) 0=s[i+1]:=by rw[aOF,aOn j];rfl
  rw[e];rfl
 rw[List.drop_eq_nil_of_le (show s.length<=i+1 by omega),vY];simp only[DD,aOT,and_false,aPq];rfl
def zf: ∀(n:Nat) (s u:pJ),s.length<=n->vY s=some u->u.length<=s.length
 |_,[],u,_,h=>by unfold vY at h;cases h;exact aOA _
 |n,[c],u,_,h=>by
  unfold vY at h;split at h
  .cases h
  .cases h;exact aOA _
 |0,_::_::_,_,j,_=>by simp at j
 |n+1,c::d::r,u,j,h=>by
  unfold vY at h;simp only[aOe] at j|-;split at h
  .split at h
   .obtain⟨v,hv,rfl⟩:=aOq.1 h;have:=zf n r v pN hv;simp only[aOe];omega
   cases h
  obtain⟨v,hv,rfl⟩:=aOq.1 h;have:=zf n (d::r) v aQm hv;simp only[aOe] at this|-;omega
def zg (s:pJ) (M:fit s): ∀(n j:Nat) (b:pU) (u:pJ),s.length<=j+n->j<=s.length->b.length<=j->vY (s.drop j)=some u->rC (OX s) ((j:Int),b)=some (b++tK u)
 |n,j,b,u,Q,R,hb,D=>by
  unfold fit at M;by_cases z:j<s.length
  .cases n with
   |zero=>omega
   |succ n=>
    rw[a4g z] at D;rw[sZ];unfold OX;simp only;have I:=zE z 92 pO;rw[show ((92:Nat):Int)=92 from rfl,show UInt8.ofNat 92=92 from rfl] at I;rw[aOd (sG z),aOd (rP z),I];by_cases K:s[j]=92
    .have E:uI s[j]=true:=by rw[K];rfl
     rw[aOd E] at D;split at D
     .rename_i O;have F:j+1<s.length:=by
       by_cases F:j+1<s.length
       .exact F
       have:=O.2;rw[gr F] at this;cases this
      obtain⟨v,hv,rfl⟩:=aOq.1 D;have G:=wJ F;rw[Int.natCast_add,Int.natCast_one] at G;rw[aOd (aO4 K),aOd (s5 pN),aOd ⟨pN,pN⟩,XS pN,aOc,aOd aQF,aOc];have:=zg s M n (j+2) (b++[r7 s ((j:Int)+1)]) v pN pN aQM hv;rw[show ((j+2:Nat):Int)=(j:Int)+1+1 by omega] at this;refine Eq.trans this ?_;rw[G,aOk];have e:s.getD (j+1) 0=s[j+1]:=by rw[aOF,aOn F];rfl
      rw[e];rfl
     cases D
    have E:uI s[j]=false:=by
     cases h:uI s[j] with
     |false=>rfl
     |true=>
      rw[aOd h,aOi (λO=>K O.1)] at D;cases D
    rw[E,aOi pP] at D;obtain⟨v,hv,rfl⟩:=aOq.1 D;rw[aOi (by simpa using K),aOd (rP z),XS pN,aOc,aOd (s5 pN),aOc,wJ z];have:=zg s M n (j+1) (b++[(s[j].toNat:Int)]) v pN pN aQM hv;rw[show ((j+1:Nat):Int)=(j:Int)+1 by omega] at this;refine Eq.trans this ?_;rw[aOk];rfl
  have:j=s.length:=by omega
  subst this;rw[aOQ,vY] at D;cases D;rw[sZ];unfold OX;simp only;rw[aOi (sL _)];show some b=some (b++[]);rw[List.append_nil]
end Go.Proofs.YtedimeeleabhnaaGreatDoor
