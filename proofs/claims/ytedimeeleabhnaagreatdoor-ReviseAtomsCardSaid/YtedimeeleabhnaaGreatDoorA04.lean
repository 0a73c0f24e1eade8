import Derived.Laws.BitsLemmas
import Derived.Lib.Index
import Derived.Lib.IndexAny
import Derived.Lib.MapLaws
import Derived.Lib.TrimAscii
import Derived.Lib.TrimUEq
import Derived.Lib.ValidLaws
import Derived.Sort.Walk0
import Derived.Test.YtedimeeleabhnaaGreatDoorA03e
set_option linter.all false
set_option maxRecDepth 100000
set_option maxHeartbeats 4000000
namespace Go.Proofs.YtedimeeleabhnaaGreatDoor
open Vc
def tA {σ ρ:Type}(f:σ->Option (σ⊕ρ)) (x:σ):rC f x=(f x).bind λw=>match w with
    | .inl y=>rC f y
    | .inr r=>some r:=by
  cases h:f x with
  | none=>
    cases z:rC f x with
    |none=>rfl
    | some r=>
      obtain⟨n,j⟩:=bx z;cases n with
      |zero=>cases j
      |succ n=>unfold iter at j;rw[h] at j;cases j
  | some w=>
    cases w with
    |inl y=>exact AB h
    |inr r=>exact xP h
def v7 {t:Ty}{l:List t.den}{i:Nat}(h:i<l.length):qH t l (i:Int)=l[i]:=by
  unfold qH;rw[aNL,aNy,aNe h];rfl
def wF {l:pI}{i:Nat}(h:i<l.length):qZ l (i:Int)=(l[i].toNat:Int):=by
  unfold qZ;rw[aNL,aNy,aNe h];rfl
def BC {β:Type}(f:Nat->β) (b:β):pW->β
  |some k=>f k
  |none=>b
def wl {α ρ:Type}{f:Int->Option (Int⊕(Unit⊕ρ))}{l:List α}(p:α->Bool) (g:Nat->ρ)
    (hf: ∀(i:Nat) (h:i<l.length),f i=if p l[i]=true then some (.inr (.inr (g i))) else some (.inl (i+1)))
    (D:f l.length=some (.inr (.inl ()))): ∀(n j:Nat),j+n=l.length->rC f j=some (BC (λk=> .inr (g (j+k))) (.inl ()) ((l.drop j).findIdx? p))
  | 0,j,E=>by
    have:j=l.length:=by omega
    subst this;rw[aNH,tA,D];rfl
  | n+1,j,E=>by
    have z:j<l.length:=by omega
    rw[tA,hf j z,aNm z,aOp];by_cases hp:p l[j]=true
    · rw[aM4 hp,aM4 hp]
      rfl
    rw[aM9 hp,aM9 hp]
    show rC f ((j:Int)+1)=_;have:=wl p g hf D n (j+1) pM;rw[show ((j:Int)+1)=((j+1:Nat):Int) by omega,this];cases(l.drop (j+1)).findIdx? p with
    |none=>rfl
    | some k=>
      show some (Sum.inr (g (j+1+k)))=some (Sum.inr (g (j+(k+1))));rw[show j+1+k=j+(k+1) by omega]
def yZ {α ρ:Type}{f:Int->Option (Int⊕(Unit⊕ρ))}{l:List α}(p:α->Bool) (g:Nat->ρ)
    (hf: ∀(i:Nat) (h:i<l.length),f i=if p l[i]=true then some (.inr (.inr (g i))) else some (.inl (i+1)))
    (j:f l.length=some (.inr (.inl ()))):rC f 0=some (BC (λk=> .inr (g k)) (.inl ()) (l.findIdx? p)):=by
  have:=wl p g hf j l.length 0 pM;simpa using this
def a2s {s:pI}{i:Nat}(h:i<s.length) (z:s[i].toNat<128):xN s i=(s[i].toNat:Int)/\AZ s i=i+1:=by
  have j:=Lib.decodeL_drop ⟨s.toArray⟩ i
  have D:(⟨s.toArray⟩:ByteArray).data.toList.drop i=s[i]::s.drop (i+1):=by
    show s.drop i=_;rw[aNm h]
  rw[D,Lib.decodeL_ascii _ _ z] at j;unfold xN AZ lr;rw[<-j,aM4 h];exact⟨rfl,rfl⟩
def aFY {n b0 b1 b2 b3:Nat}(h:128<=b0):128<=(Lib.decodeN n b0 b1 b2 b3).1:=by
  unfold Lib.decodeN
  repeat' split
  all_goals first|omega|(dsimp only;omega)
def a2t {s:pI}{i:Nat}(h:i<s.length) (j:128<=s[i].toNat):128<=xN s i:=by
  unfold xN;rw[Lib.decode_at]
  have:(⟨s.toArray⟩:ByteArray).get! i=s[i]:=by
    show s.toArray[i]! =_;simp [h]
  rw[this];exact Int.ofNat_le.2 (aFY j)
def a2u {ρ:Type}{f:Nat->Option (Nat⊕(Unit⊕ρ))}{s:pI}(p:Int->Bool) (g:Nat->ρ) (hb: ∀c,128<=c->p c=true)
    (hf: ∀(i:Nat) (h:i<s.length),f i=if p (xN s i)=true then some (.inr (.inr (g i))) else some (.inl (AZ s i)))
    (D:f s.length=some (.inr (.inl ()))): ∀(n j:Nat),j+n=s.length->rC f j=some (BC (λk=> .inr (g (j+k))) (.inl ()) ((s.drop j).findIdx? (λb=>p b.toNat)))
  | 0,j,E=>by
    have:j=s.length:=by omega
    subst this;rw[aNH,tA,D];rfl
  | n+1,j,E=>by
    have z:j<s.length:=by omega
    rw[tA,hf j z,aNm z,aOp];by_cases F:s[j].toNat<128
    · obtain⟨e1,e2⟩:=a2s z F
      rw[e1,e2];by_cases hp:p (s[j].toNat:Int)=true
      · rw[aM4 hp,aM4 hp]
        rfl
      rw[aM9 hp,aM9 hp]
      show rC f (j+1)=_;rw[a2u p g hb hf D n (j+1) pM];cases(s.drop (j+1)).findIdx? (λb=>p b.toNat) with
      |none=>rfl
      | some k=>
        show some (Sum.inr (g (j+1+k)))=some (Sum.inr (g (j+(k+1))));rw[show j+1+k=j+(k+1) by omega]
    rw[aM4 (hb _ (a2t z pM)),aM4 (hb _ pM)]
    rfl
def aFZ {ρ:Type}{f:Nat->Option (Nat⊕(Unit⊕ρ))}{s:pI}(p:Int->Bool) (g:Nat->ρ) (hb: ∀c,128<=c->p c=true)
    (hf: ∀(i:Nat) (h:i<s.length),f i=if p (xN s i)=true then some (.inr (.inr (g i))) else some (.inl (AZ s i)))
    (j:f s.length=some (.inr (.inl ()))):rC f 0=some (BC (λk=> .inr (g k)) (.inl ()) (s.findIdx? (λb=>p b.toNat))):=by
  have:=a2u p g hb hf j s.length 0 pM;simpa using this
def fit {α:Type}(l:List α):Prop:=l.length<=4000000000
def s7 {i:Nat}(h:i<=4000000000):qG ((i:Int)+1):=by unfold qG;omega
def rO {i n:Nat}(h:i<n):0<=(i:Int)/\(i:Int)<(n:Int):=⟨pM,pM⟩
def sI {i n:Nat}(h:i<n):decide ((i:Int)<(n:Int))=true:=by simpa using h
def sO (n:Nat): ¬decide ((n:Int)<(n:Int))=true:=by simp
def a2v {α:Type}{p:α->Bool}: ∀{l:List α},(l.findIdx? p).isSome=l.any p
  |[]=>rfl
  | x::l=>by
    rw[aOp,List.any_cons];cases p x with
    |true=>rfl
    |false=>simp [a2v (l:=l)]
def BD {α β:Type}{p:α->Bool}{l:List α}{f:Nat->β}{b:β}:BC f b (l.findIdx? p)=if l.any p=true then f ((l.findIdx? p).getD 0) else b:=by
  rw[<-a2v];cases l.findIdx? p with
  |none=>rfl
  |some k=>rfl
def TZ (c:Int):Bool:=(((!(((97:Int)<=c)&&(c<=(122:Int))))&&(!(((48:Int)<=c)&&(c<=(57:Int)))))&&(!decide (c=(45:Int))))&&((c<(65:Int))||((90:Int)<c))
def I9 (s:pI):Bool:= !(s.any λb=>TZ b.toNat)&&(((1:Int)<=(s.length:Int))&&((s.length:Int)<=(40:Int)))
def aF0 (s:pI) (j:fit s):SD s=some (I9 s):=by
  unfold fit at j
  have h:=yZ (f:=NS s) (l:=s) (λb=>TZ b.toNat) (λ_=>false) (λi h=>by
    unfold NS;rw[aM4 (sI h),aM4 (rO h),wF h,aM4 (s7 pM)];rfl) (by
    unfold NS;rw[aM9 (sO _)])
  unfold SD;rw[h,BD];unfold I9;cases s.any λb=>TZ b.toNat<;>rfl
def fh (c:Int):Bool:=((((c<(97:Int))||((122:Int)<c))&&((c<(65:Int))||((90:Int)<c)))&&((c<(48:Int))||((57:Int)<c)))&&(!decide (c=(45:Int)))
def aF1 (c:Int):fh c=TZ c:=by
  unfold fh TZ;rw[aNv];simp;omega
def aF2 (s:pI):RZ s=some (I9 s):=by
  have h:=aFZ (f:=MZ s) (s:=s) (λc=>fh c) (λ_=>false) (λc h=>by unfold fh;simp;omega) (λi h=>by
    unfold MZ;rw[aM4 aO4,aM4 aO4];rfl) (by
    unfold MZ;rw[aM9 pO])
  unfold RZ;rw[h,BD];simp only[aF1];unfold I9;cases s.any λb=>TZ b.toNat<;>rfl
def AO (c:Int):Bool:=((((!(((97:Int)<=c)&&(c<=(122:Int))))&&(!(((48:Int)<=c)&&(c<=(57:Int)))))&&(!decide (c=(45:Int))))&&(!decide (c=(95:Int))))&&(!decide (c=(46:Int)))
def AP (c:Int):Bool:=((97:Int)<=c)&&(c<=(122:Int))
def KP:pI->Bool
  |[]=>false
  |b::t=>(!decide (40<t.length+1)&&AP b.toNat)&& !(t.any λb=>AO b.toNat)
def a2w (s:pI) (F:fit s):N3 s=some (KP s):=by
  unfold fit at F;unfold N3;cases s with
  |nil=>simp [KP]
  | cons b t=>
    have E:qZ (b::t) (0:Int)=(b.toNat:Int):=wF (i:=0) pO;rw[aM4 (λ_=>⟨aN2 0,by simp only[aM5];omega⟩),E];unfold KP;by_cases z:(40:Int)<((b::t).length:Int)
    · have j:40<t.length+1:=by simp only[aM5] at z;omega
      rw[aM4 (by simp only[z,decide_true,Bool.or_true,Bool.true_or])];simp [j]
    have j: ¬40<t.length+1:=by simp only[aM5] at z;omega
    have D: ¬((b::t).length:Int)<1:=by simp;omega
    by_cases hb:AP b.toNat=true
    · rw[aM9 (by unfold AP at hb;simp only[z,D,hb];simp)]
      have h:=wl (f:=N2 (b::t)) (l:=b::t) (λb=>AO b.toNat) (λ_=>false) (λi h=>by
        unfold N2;rw[aM4 (sI h),aM4 (rO h),wF h,aM4 (s7 pM)];rfl) (by
        unfold N2;rw[aM9 (sO _)]) t.length 1 pP
      rw[show ((1:Nat):Int)=1 from rfl] at h;rw[h,BD];simp only[aOD,aNG,hb,j,decide_false,Bool.not_false,Bool.true_and];cases t.any λb=>AO b.toNat<;>rfl
    rw[aM4 (by unfold AP at hb;simp only[hb];simp)]
    simp [hb]
def a2x (s:pI): ∀(n j:Nat),j+n=s.length->rC (JN s) j=some (if (s.drop j).any (λb=>AO b.toNat)=true\/(j=0/\s≠[]/\AP (s.getD 0 0).toNat=false) then .inr false else .inl ())
  | 0,j,O=>by
    have:j=s.length:=by omega
    subst this;rw[aNH,tA];unfold JN;rw[aM9 pO];by_cases h0:s=[]
    .subst h0;simp
    · have:s.length≠0:=by simpa using h0
      simp [this]
  | n+1,j,O=>by
    have z:j<s.length:=by omega
    have ih:=a2x s n (j+1) pM;rw[tA,aNm z,List.any_cons]
    have F:JN s j=if (AO (s[j].toNat:Int)=true\/(j=0/\AP (s[j].toNat:Int)=false)) then some (.inr (.inr false)) else some (.inl (j+1)):=by
      unfold JN;rw[aM4 aO6,aM4 aO6,aM4 aO6];by_cases Q:s[j].toNat<128
      · obtain⟨e1,e2⟩:=a2s z Q
        rw[e1,e2];by_cases E:AP (s[j].toNat:Int)=true
        · rw[aM4 (by unfold AP at E;exact E),aM9]
          unfold AP at E;simp only[aNf,aNj] at E;simp [AO,AP];omega
        have K:AP (s[j].toNat:Int)=false:=by simpa using E
        rw[aM9 (by unfold AP at E;exact E)]
        have R: ¬(97<=(s[j].toNat:Int)/\(s[j].toNat:Int)<=122):=by
          unfold AP at E;simpa using E
        by_cases D:AO (s[j].toNat:Int)=true\/j=0
        · rw[aM9,aM4]
          · rcases D with D|D
            .exact .inl D
            exact .inr ⟨D,K⟩
          simp [AO] at D|-
          omega
        rw[aM4,aM9]
        · intro h
          rcases h with h|⟨h,_⟩
          .exact D (.inl h)
          exact D (.inr h)
        simp [AO] at D|-
        omega
      have hb:=a2t z pM
      rw[aM9 pP,aM9 pP,aM4 (.inl (by simp [AO];omega))]
    rw[F];have M:s.getD 0 0=s[0]'pM:=by simp [aNy,aNe (show 0<s.length by omega)]
    have G:s≠[]:=by intro h;subst h;simp at z
    by_cases hp:AO (s[j].toNat:Int)=true\/(j=0/\AP (s[j].toNat:Int)=false)
    · rw[aM4 hp,aM4]
      .rfl
      rcases hp with hp|⟨rfl,hp⟩
      .left;simp [hp]
      right;exact⟨rfl,G,by rw[M];exact hp⟩
    rw[aM9 hp]
    show rC _ (j+1)=_;rw[ih]
    have I:AO (s[j].toNat:Int)=false:=by
      cases h:AO (s[j].toNat:Int) with
      |true=>exact absurd (.inl h) hp
      |false=>rfl
    simp only[I,Bool.false_or];congr 2;apply propext;constructor
    · rintro(h|⟨h,_⟩)
      .exact .inl h
      omega
    rintro(h|⟨rfl,_,h⟩)
    .exact .inl h
    rw[M] at h
    exact absurd (.inr ⟨rfl,h⟩) hp
def a2y (s:pI):N0 s=some (KP s):=by
  have h:=a2x s s.length 0 pM;unfold N0;rw[h,aNG];cases s with
  |nil=>simp [KP,sK]
  | cons b t=>
    simp only[List.any_cons,List.getD_cons_zero,ne_eq,reduceCtorEq,not_false_eq_true,true_and,KP];cases j:AP b.toNat with
    |false=>simp [sK]
    | true=>
      have z:AO b.toNat=false:=by
        unfold AP at j;simp only[aNf,aNj] at j;simp [AO];omega
      simp only[z,Bool.false_or];cases t.any (λb=>AO b.toNat) with
      |true=>simp [sK]
      | false=>
        simp only[aNJ,false_or,and_false,aOh];show some (decide ((1:Int)<=((b::t).length:Int))&&decide (((b::t).length:Int)<=40))=_;congr 1;rw[aNv];simp only[aM5,aNf,aNj,aNS,aN5,Bool.not_false,and_true];omega
def wm {β:Type}{f:Nat->β}{b:β}{o:pW}:sK (some (BC (λk=> .inr (f k)) (.inl ()) o)) (λ_=>some b)=some (BC f b o):=by
  cases o<;>rfl
def a2z {α:Type}{p:α->Bool}{l:List α}:decide ((0:Int)<=BC (λk=>(k:Int)) (-1) (l.findIdx? p))=l.any p:=by
  rw[BD];cases l.any p
  .rfl
  simp only[aOc,aNj];omega
abbrev C8:=pI×pI×Unit
def U0 {α:Type}{l:List α}{k:Nat}:s8 l 0 (k:Int)=l.take k:=by unfold s8;simp
def FB {α:Type}{l:List α}{k:Nat}:s8 l (k:Int) (l.length:Int)=l.drop k:=by
  unfold s8;rw[aNL,aNL,List.take_of_length_le];rw[aNE];exact aNt _
def DA (n:Int):Prop:=0<=n/\n<=1114111/\(n<55296\/57343<n)
def KQ (n:Int):Bool:=((((0:Int)<=n)&&(n<=(1114111:Int)))&&((n<(55296:Int))||((57343:Int)<n)))
def PE (n:Int):KQ n=true↔DA n:=by
  unfold KQ DA;simp;omega
def fi {n:Int}(h0:0<=n) (j:n<=127):Lib.encodeRune n=tQ [n]:=by
  unfold Lib.encodeRune;rw[Lib.encodeRuneZ_one h0 j];rfl
def fj {n:Int}(h0:128<=n) (j:n<=2047):Lib.encodeRune n=tQ [192+n/64,128+n%64]:=by
  unfold Lib.encodeRune;rw[Lib.encodeRuneZ_two h0 j];rfl
def wn {n:Int}(h:(2048<=n/\n<55296)\/(57343<n/\n<=65535)):Lib.encodeRune n=tQ [224+n/4096,128+n/64%64,128+n%64]:=by
  unfold Lib.encodeRune;rw[Lib.encodeRuneZ_three h];rfl
def a2A {n:Int}(h0:65536<=n) (j:n<=1114111):Lib.encodeRune n=tQ [240+n/262144,128+n/4096%64,128+n/64%64,128+n%64]:=by
  unfold Lib.encodeRune;rw[Lib.encodeRuneZ_four h0 j];rfl
def a2B {n:Int}(h:DA n):F5 n=some (Lib.encodeRune n):=by
  obtain⟨h0,z,j⟩:=h;have w1:IntKind.i64.wrap (n/64)=n/64:=by rw[aOG];omega
  have w2:IntKind.i64.wrap (n/4096)=n/4096:=by rw[aOG];omega
  have w3:IntKind.i64.wrap (n/262144)=n/262144:=by rw[aOG];omega
  have m1:Int.tmod n 64=n%64:=aOu h0;have m2:Int.tmod (n/64) 64=n/64%64:=aOu pM;have m3:Int.tmod (n/4096) 64=n/4096%64:=aOu pM;unfold F5;simp only[Int.tdiv_eq_ediv_of_nonneg h0,w1,w2,w3,m1,m2,m3,IntKind.wrap_u8];by_cases c1:n<128
  .rw[aM4 (by simpa using c1),fi h0 pM,show n%256=n by omega]
  rw[aM9 (by simpa using c1)]
  by_cases c2:n<2048
  .rw[aM4 (by simpa using c2),aM4 aPv,aM4 aPv,fj pM pM,show (192+n/64) %256=192+n/64 by omega,show (128+n%64) %256=128+n%64 by omega]
  rw[aM9 (by simpa using c2)]
  by_cases c3:n<65536
  .rw[aM4 (by simpa using c3),aM4 aPv,aM4 aPv,aM4 aPv,wn pM,show (224+n/4096) %256=224+n/4096 by omega,show (128+n/64%64) %256=128+n/64%64 by omega,show (128+n%64) %256=128+n%64 by omega]
  rw[aM9 (by simpa using c3),aM4 aPv,aM4 aPv,aM4 aPv,aM4 aPv,a2A pM pM,show (240+n/262144) %256=240+n/262144 by omega,show (128+n/4096%64) %256=128+n/4096%64 by omega,show (128+n/64%64) %256=128+n/64%64 by omega,show (128+n%64) %256=128+n%64 by omega]
def aF3 (n:Int):(Lib.encodeRuneZ n).length<=4:=by
  unfold Lib.encodeRuneZ
  repeat' split
  all_goals simp
def a2C {l:pI}{i:Nat}(h:i<l.length):qZ l (i:Int)=((l.getD i 0).toNat:Int):=by
  rw[wF h,aNy,aNe h];rfl
def aF4 {s:pI}{x n:Int}{i:Nat}(h:i<s.length) (D:(i:Int)<n) (F:0<=x) (E:x<=1000000) (hi:i<=10):D5 s n (x,(i:Int))=
    if (s.getD i 0).toNat/64=2 then some (.inl (64*x+(s.getD i 0).toNat-128,((i+1:Nat):Int))) else some (.inr (.inr (65533,1))):=by
  have hb:=(s.getD i 0).toNat_lt;have j:=a2C h;generalize (s.getD i 0).toNat=B at hb j|-;unfold D5;dsimp only;rw[aM4 aPm,aM4 (rO h),aM4 (λ_=>rO h),j];by_cases z:B/64=2
  · rw[aM9 pP,aM4 z,aM4 aPv,aM4 (rO h),show IntKind.i64.wrap (B:Int)=(B:Int) by rw[aOG];omega,
      aM4 aPv,aM4 aPv,aM4 aPv]
    rfl
  rw[aM4 pP,aM9 z]
def wo {s:pI}{x n i:Int}(h:n<=i):D5 s n (x,i)=some (.inr (.inl x)):=by
  unfold D5;dsimp only;rw[aM9 aO4]
def uJ (s:pI) (i:Nat):Bool:=decide ((s.getD i 0).toNat/64=2)
def yM (s:pI) (i:Nat) (x:Int):Int:=64*x+(s.getD i 0).toNat-128
def wq {s:pI}{i:Nat}{x m:Int}(h0:0<=x) (hm:x<=m) (j:uJ s i=true):0<=yM s i x/\yM s i x<=64*m+63:=by
  have hb:=(s.getD i 0).toNat_lt;unfold uJ at j;unfold yM;simp only[aNj] at j;omega
def U1 {s:pI}{x n:Int}{i:Nat}(h:i<s.length) (E:(i:Int)<n) (D:0<=x) (z:x<=1000000) (hi:i<=10):
    rC (D5 s n) (x,(i:Int))=if uJ s i=true then rC (D5 s n) (yM s i x,((i+1:Nat):Int)) else some (.inr (65533,1)):=by
  rw[tA,aF4 h E D z hi];unfold uJ yM;simp only[aNj];by_cases j:(s.getD i 0).toNat/64=2
  .rw[aM4 j,aM4 j];rfl
  rw[aM9 j,aM9 j];rfl
def aF5 {s:pI}{x:Int}(h:1<s.length) (j:0<=x) (z:x<=31):rC (D5 s 2) (x,1)=some (if uJ s 1=true then .inl (yM s 1 x) else .inr (65533,1)):=by
  show rC _ (x,((1:Nat):Int))=_;rw[U1 h pN j pM pN];by_cases c1:uJ s 1=true
  .rw[aM4 c1,aM4 c1,xP (wo pN)]
  rw[aM9 c1,aM9 c1]
def aF6 {s:pI}{x:Int}(h:2<s.length) (z:0<=x) (j:x<=15):rC (D5 s 3) (x,1)=some (if (uJ s 1&&uJ s 2)=true then .inl (yM s 2 (yM s 1 x)) else .inr (65533,1)):=by
  show rC _ (x,((1:Nat):Int))=_;rw[U1 pM pN z pM pN];by_cases c1:uJ s 1=true
  · have b1:=wq z j c1
    rw[aM4 c1,U1 h pN b1.1 pM pN,c1,Bool.true_and];by_cases c2:uJ s 2=true
    .rw[aM4 c2,aM4 c2,xP (wo pN)]
    rw[aM9 c2,aM9 c2]
  rw[aM9 c1,aM9 (by simp [c1])]
def aF7 {s:pI}{x:Int}(h:3<s.length) (z:0<=x) (j:x<=7):rC (D5 s 4) (x,1)=some (if (uJ s 1&&uJ s 2&&uJ s 3)=true then .inl (yM s 3 (yM s 2 (yM s 1 x))) else .inr (65533,1)):=by
  show rC _ (x,((1:Nat):Int))=_;rw[U1 pM pN z pM pN];by_cases c1:uJ s 1=true
  · have b1:=wq z j c1
    rw[aM4 c1,U1 pM pN b1.1 pM pN,c1,Bool.true_and];by_cases c2:uJ s 2=true
    · have b2:=wq b1.1 b1.2 c2
      rw[aM4 c2,U1 h pN b2.1 pM pN,c2,Bool.true_and];by_cases c3:uJ s 3=true
      .rw[aM4 c3,aM4 c3,xP (wo pN)]
      rw[aM9 c3,aM9 c3]
    rw[aM9 c2,aM9 (by simp [c2])]
  rw[aM9 c1,aM9 (by simp [c1])]
def tO (s:pI) (x:Int) (n:Nat):Int×Int:=if KQ x=true/\Lib.encodeRune x=s.take n then(x,n) else(65533,1)
def wt {s:pI}{x:Int}{n:Nat}(F:n<=s.length):
    (if (((!((((0:Int)<=x)&&(x<=(1114111:Int)))&&((x<(55296:Int))||((57343:Int)<x))))==false)=true->((F5 x)).isSome=true) then
    if (((!((((0:Int)<=x)&&(x<=(1114111:Int)))&&((x<(55296:Int))||((57343:Int)<x))))==false)=true->0<=(0:Int)/\(0:Int)<=(n:Int)/\(n:Int)<=(s.length:Int)) then
     if ((!((((0:Int)<=x)&&(x<=(1114111:Int)))&&((x<(55296:Int))||((57343:Int)<x))))||(!decide ((val (F5 x))=(s8 s (0:Int) (n:Int)))))=true then
      some (((65533:Int),(1:Int)))
     else
      some ((x,(n:Int)))
    else none
   else none)=some (tO s x n):=by
  rw[U0];simp only[show ((((0:Int)<=x)&&(x<=(1114111:Int)))&&((x<(55296:Int))||((57343:Int)<x)))=KQ x from rfl]
  unfold tO;by_cases z:KQ x=true
  · have E:=a2B ((PE x).1 z)
    rw[aM4 (λ_=>by rw[E];rfl),aM4 (λ_=>⟨aN2 _,pM,pM⟩),E,z];by_cases D:Lib.encodeRune x=s.take n
    .rw[aM9 (by simp [val,D]),aM4 ⟨rfl,D⟩]
    rw[aM4 (by simp [val,D]),aM9 (λh=>D h.2)]
  have j:KQ x=false:=by simpa using z
  rw[aM4 (λh=>by simp [j] at h),aM4 (λh=>by simp [j] at h),aM4 aPw,aM9 (λh=>z h.1)]
def IA (z:Int) (l:pT) (x:UInt8) (h:z=(x.toNat:Int)):tQ (z::l)=x::tQ l:=by
  show UInt8.ofNat z.toNat::tQ l=_;rw[h];simp
def wu:tQ []=[]:=rfl
def U2 (l:pT):(tQ l).length=l.length:=by simp [tQ]
def aF8 {s:pI}(E:1<s.length) (h0:192<=(s.getD 0 0).toNat) (G:(s.getD 0 0).toNat<224) (j:uJ s 1=true):
    tO s (yM s 1 ((s.getD 0 0).toNat-192)) 2=(((Lib.decodeL s).1:Int),((Lib.decodeL s).2:Int)):=by
  unfold uJ at j;simp only[aNj] at j;have k0:=(s.getD 0 0).toNat_lt;have k1:=(s.getD 1 0).toNat_lt
  have F:Lib.decodeL s=if (s.getD 0 0).toNat%32*64+(s.getD 1 0).toNat%64>=128 then((s.getD 0 0).toNat%32*64+(s.getD 1 0).toNat%64,2) else(65533,1):=by
    rw[Lib.decodeL_N];unfold Lib.decodeN;rw[aM9 pM,aM4 ⟨pM,pM,j⟩]
  rw[F];unfold tO yM;rw[Lib.takeB s E];have D:KQ (64*((s.getD 0 0).toNat-192)+(s.getD 1 0).toNat-128)=true:=(PE _).2 (by unfold DA;omega);rw[D];by_cases hv:(s.getD 0 0).toNat%32*64+(s.getD 1 0).toNat%64>=128
  · rw[aM4 hv,aM4 ⟨rfl,by
      rw[fj pM pM,IA _ _ (s.getD 0 0) pM,IA _ _ (s.getD 1 0) pM,wu]⟩]
    exact Prod.ext (by show _=(((_:Nat)):Int);omega) rfl
  rw[aM9 hv,aM9 (λh=>by
    have z:=aNz List.length h.2;rw[fi pM pM,U2] at z;simp at z)]
  rfl
def aF9 {s:pI}(G:2<s.length) (h0:224<=(s.getD 0 0).toNat) (Q:(s.getD 0 0).toNat<240) (D:uJ s 1=true) (j:uJ s 2=true):
    tO s (yM s 2 (yM s 1 ((s.getD 0 0).toNat-224))) 3=(((Lib.decodeL s).1:Int),((Lib.decodeL s).2:Int)):=by
  unfold uJ at D j;simp only[aNj] at D j;have k0:=(s.getD 0 0).toNat_lt;have k1:=(s.getD 1 0).toNat_lt;have k2:=(s.getD 2 0).toNat_lt;obtain⟨V,K⟩: ∃V,(s.getD 0 0).toNat%16*4096+(s.getD 1 0).toNat%64*64+(s.getD 2 0).toNat%64=V:=⟨_,rfl⟩
  have I:Lib.decodeL s=if V>=2048/\(V<55296\/(57344<=V/\V<=1114111)) then(V,3) else(65533,1):=by
    rw[Lib.decodeL_N];unfold Lib.decodeN;rw[aM9 pM,aM9 pM,aM4 ⟨pM,⟨pM,D⟩,pM,j⟩,K]
  rw[I];unfold tO yM;rw[Lib.takeC s G];generalize R:64*(64*(((s.getD 0 0).toNat:Int)-224)+(s.getD 1 0).toNat-128)+(s.getD 2 0).toNat-128=X;have E:X=(V:Int):=by omega
  by_cases hv:V>=2048/\(V<55296\/(57344<=V/\V<=1114111))
  · rw[aM4 hv,aM4 ⟨(PE _).2 (by unfold DA;omega),by
      rw[wn pM,IA _ _ (s.getD 0 0) pM,IA _ _ (s.getD 1 0) pM,IA _ _ (s.getD 2 0) pM,wu]⟩]
    exact Prod.ext E rfl
  rw[aM9 hv,aM9 (λh=>by
    have F:=(PE _).1 h.1;unfold DA at F;have O:X<2048:=by omega
    have z:=aNz List.length h.2;by_cases M:X<=127
    .rw[fi pM M,U2] at z;simp at z
    rw[fj pM pM,U2] at z;simp at z)]
  rfl
def aGa {s:pI}(I:3<s.length) (h0:240<=(s.getD 0 0).toNat) (R:(s.getD 0 0).toNat<248) (E:uJ s 1=true) (z:uJ s 2=true) (j:uJ s 3=true):
    tO s (yM s 3 (yM s 2 (yM s 1 ((s.getD 0 0).toNat-240)))) 4=(((Lib.decodeL s).1:Int),((Lib.decodeL s).2:Int)):=by
  unfold uJ at E z j;simp only[aNj] at E z j;have k0:=(s.getD 0 0).toNat_lt;have k1:=(s.getD 1 0).toNat_lt;have k2:=(s.getD 2 0).toNat_lt;have k3:=(s.getD 3 0).toNat_lt;obtain⟨V,M⟩: ∃V,(s.getD 0 0).toNat%8*262144+(s.getD 1 0).toNat%64*4096+(s.getD 2 0).toNat%64*64+(s.getD 3 0).toNat%64=V:=⟨_,rfl⟩
  have K:Lib.decodeL s=if V>=65536/\(V<55296\/(57344<=V/\V<=1114111)) then(V,4) else(65533,1):=by
    rw[Lib.decodeL_N];unfold Lib.decodeN;rw[aM9 pM,aM9 pM,aM9 pM,aM4 ⟨pM,⟨pM,E⟩,⟨pM,z⟩,pM,j⟩,M]
  rw[K];unfold tO yM;rw[Lib.takeD s I];generalize U:64*(64*(64*(((s.getD 0 0).toNat:Int)-240)+(s.getD 1 0).toNat-128)+(s.getD 2 0).toNat-128)+(s.getD 3 0).toNat-128=X;have F:X=(V:Int):=by omega
  by_cases hv:V>=65536/\(V<55296\/(57344<=V/\V<=1114111))
  · rw[aM4 hv,aM4 ⟨(PE _).2 (by unfold DA;omega),by
      rw[a2A pM pM,IA _ _ (s.getD 0 0) pM,IA _ _ (s.getD 1 0) pM,IA _ _ (s.getD 2 0) pM,IA _ _ (s.getD 3 0) pM,wu]⟩]
    exact Prod.ext F rfl
  rw[aM9 hv,aM9 (λh=>by
    have G:=(PE _).1 h.1;unfold DA at G;have Q:X<65536:=by omega
    have D:=aNz List.length h.2;by_cases O:X<=127
    .rw[fi pM O,U2] at D;simp at D
    by_cases h8:X<=2047
    .rw[fj pM pM,U2] at D;simp at D
    rw[wn pM,U2] at D;simp at D)]
  rfl
def PF {s:pI}(h: ¬(s.getD 0 0).toNat<128) (D: ¬((s.getD 0 0).toNat/32=6/\1<s.length/\uJ s 1=true)) (z: ¬((s.getD 0 0).toNat/16=14/\2<s.length/\(uJ s 1&&uJ s 2)=true))
    (j: ¬((s.getD 0 0).toNat/8=30/\3<s.length/\(uJ s 1&&uJ s 2&&uJ s 3)=true)):Lib.decodeL s=(65533,1):=by
  unfold uJ at D z j;simp only[aNf,aNj] at D z j;rw[Lib.decodeL_N];unfold Lib.decodeN;rw[aM9 h,aM9 (λ⟨a,b,c⟩=>D ⟨a,b,c⟩),aM9 (λ⟨a,⟨b,c⟩,d,e⟩=>z ⟨a,d,c,e⟩),aM9 (λ⟨a,⟨b,c⟩,⟨d,e⟩,f,g⟩=>j ⟨a,f,⟨c,e⟩,g⟩)]
def a2D {s:pI}(E:s≠[]):NZ s=some (((Lib.decodeL s).1:Int),((Lib.decodeL s).2:Int)):=by
  have I:0<s.length:=aOP.2 E;have F:qZ s 0=((s.getD 0 0).toNat:Int):=a2C (i:=0) I;have k0:=(s.getD 0 0).toNat_lt;have G:IntKind.i64.wrap ((s.getD 0 0).toNat:Int)=((s.getD 0 0).toNat:Int):=by rw[aOG];omega
  unfold NZ;rw[aM4 ⟨aN2 _,pM⟩,F,G];by_cases c1:(s.getD 0 0).toNat<128
  · rw[aM4 aPx]
    rw[Lib.decodeL_N];unfold Lib.decodeN;rw[aM4 c1];rfl
  rw[aM9 aPx]
  by_cases c2:192<=(s.getD 0 0).toNat/\(s.getD 0 0).toNat<224
  · rw[aM4 aPy,aM4 aPv]
    show (if decide ((s.length:Int)<2)=true then _ else _)=_;by_cases l2:1<s.length
    · rw[aM9 aPx,aF5 l2 pM pM]
      by_cases j:uJ s 1=true
      · rw[aM4 j,<-aF8 l2 c2.1 c2.2 j,<-wt (s:=s) (n:=2) pM]
        rfl
      rw[aM9 j,PF c1 (λh=>j h.2.2) (λh=>by omega) (λh=>by omega)]
      rfl
    rw[aM4 aPx,PF c1 (λh=>l2 h.2.1) (λh=>by omega) (λh=>by omega)]
    rfl
  rw[aM9 aPy]
  by_cases c3:224<=(s.getD 0 0).toNat/\(s.getD 0 0).toNat<240
  · rw[aM4 aPy,aM4 aPv]
    show (if decide ((s.length:Int)<3)=true then _ else _)=_;by_cases l2:2<s.length
    · rw[aM9 aPx,aF6 l2 pM pM]
      by_cases j:(uJ s 1&&uJ s 2)=true
      · have z:=aNf _ _▸j
        rw[aM4 j,<-aF9 l2 c3.1 c3.2 z.1 z.2,<-wt (s:=s) (n:=3) pM];rfl
      rw[aM9 j,PF c1 (λh=>by omega) (λh=>j h.2.2) (λh=>by omega)]
      rfl
    rw[aM4 aPx,PF c1 (λh=>by omega) (λh=>l2 h.2.1) (λh=>by omega)]
    rfl
  rw[aM9 aPy]
  by_cases c4:240<=(s.getD 0 0).toNat/\(s.getD 0 0).toNat<248
  · rw[aM4 aPy,aM4 aPv]
    show (if decide ((s.length:Int)<4)=true then _ else _)=_;by_cases l2:3<s.length
    · rw[aM9 aPx,aF7 l2 pM pM]
      by_cases j:(uJ s 1&&uJ s 2&&uJ s 3)=true
      · have z:=aNf _ _▸j
        have D:=aNf _ _▸z.1;rw[aM4 j,<-aGa l2 c4.1 c4.2 D.1 D.2 z.2,<-wt (s:=s) (n:=4) pM];rfl
      rw[aM9 j,PF c1 (λh=>by omega) (λh=>by omega) (λh=>j h.2.2)]
      rfl
    rw[aM4 aPx,PF c1 (λh=>by omega) (λh=>by omega) (λh=>l2 h.2.1)]
    rfl
  rw[aM9 aPy,PF c1 (λh=>by omega) (λh=>by omega) (λh=>by omega)]
  rfl
def zF:Nat->pI->pT
  |0,_=>[]
  |n+1,s=>if s=[] then[] else((Lib.decodeL s).1:Int)::zF n (s.drop (Lib.decodeL s).2)
def a2E: ∀(n:Nat) (s:pI),(zF n s).length<=n
  |0,_=>aNt _
  | n+1,s=>by
    unfold zF;split
    .simp
    simp only[aM5]
    have:=a2E n (s.drop (Lib.decodeL s).2);omega
def aGb (s:pI):DA ((Lib.decodeL s).1:Int):=by
  have k0:=(s.getD 0 0).toNat_lt;rw[Lib.decodeL_N];rcases Lib.decodeN_shape s.length (s.getD 0 0).toNat (s.getD 1 0).toNat (s.getD 2 0).toNat (s.getD 3 0).toNat with⟨c,e⟩ |⟨c1,c2,c3,cv,e⟩ |⟨c1,c2,c3,c4,cv,cs,e⟩ |⟨c1,c2,c3,c4,c5,cv,cw,e⟩ |e
  all_goals (rw[e];unfold DA;dsimp only;omega)
def a2F: ∀(n:Nat) (s:pI) (out:pT),s.length<=n->out.length+s.length<=4000000000->rC K2 (s,out)=some (out++zF n s)
  | n,[],out,_,_=>by
    rw[xP (r:=out) (by unfold K2;simp)];cases n<;>simp [zF]
  |0,b::t,_,h,_=>by simp at h
  | n+1,b::t,out,h,E=>by
    have j:(b::t)≠[]:=by simp
    have D:=Lib.decodeL_le (b::t) j;have F:=Lib.decodeL_width (b::t)
    have z:K2 (b::t,out)=some (.inl ((b::t).drop (Lib.decodeL (b::t)).2,out++[((Lib.decodeL (b::t)).1:Int)])):=by
      unfold K2;dsimp only;rw[aM4 pO,a2D j];simp only[aM3];rw[aM4 aPz,aM4 ⟨pM,pM,aN2 _⟩,FB]
    rw[AB z,a2F n _ _ (by rw[aNE];simp only[aM5] at h D|-;omega) (by rw[aNE,aM7];simp only[aM5,aM8] at E D|-;omega)];rw[show zF (n+1) (b::t)=((Lib.decodeL (b::t)).1:Int)::zF n ((b::t).drop (Lib.decodeL (b::t)).2) by rw[zF,aM9 j],aNd];rfl
def fk (s:pI):pT:=zF s.length s
def aGc (s:pI) (j:fit s):T4 s=some (fk s):=by
  unfold fit at j;unfold T4;rw[a2F s.length s [] (aNt _) aO5];rfl
def a2G: ∀(n:Nat) (s:pI),∀x∈zF n s,DA x
  |0,_,_,h=>by cases h
  | n+1,s,x,h=>by
    unfold zF at h;split at h
    .cases h
    rcases aNk.1 h with h|h
    .rw[h];exact aGb s
    exact a2G n _ x h
def KR (l:pT):pI:=(l.map Lib.encodeRune).flatten
def aGd (n:Int):(Lib.encodeRune n).length<=4:=by
  unfold Lib.encodeRune;rw[aN9];exact aF3 n
def a2H (l:pT) (E: ∀x∈l,DA x) (G:fit l): ∀(n j:Nat) (s:pI),j+n=l.length->s.length+4*n<=10000000000000->rC (JX l) (s,(j:Int))=some (s++KR (l.drop j))
  | 0,j,s,I,_=>by
    have:j=l.length:=by omega
    subst this;rw[xP (r:=s) (by unfold JX;simp),aNH];simp [KR]
  | n+1,j,s,I,K=>by
    have z:j<l.length:=by omega
    unfold fit at G;have F:=E l[j] (aNc z);have M:=aGd l[j]
    have D:JX l (s,(j:Int))=some (.inl (s++Lib.encodeRune l[j],((j+1:Nat):Int))):=by
      unfold JX;dsimp only;rw[aM4 (sI z),aM4 (rO z),v7 (t:= .int .i64) z];have hb:=(PE l[j]).2 F;unfold KQ at hb;rw[aM4 hb,aM4 (rO z),a2B F];simp only[aM3];rw[aM4 aPA,aM4 (s7 pM)];rfl
    rw[AB D,a2H l E G n (j+1) _ pM aPA,aNm z,aNd];rfl
def aGe (l:pT) (j: ∀x∈l,DA x) (D:fit l):SG l=some (KR l):=by
  have z:=D;unfold fit at z;unfold SG;rw[show ((0:Int))=((0:Nat):Int) from rfl,a2H l j D l.length 0 [] pM pP];rfl
def a2I: ∀(n:Nat) (s:pI),s.length<=n->s.length<=(KR (zF n s)).length/\(KR (zF n s)=s↔Lib.validD s=true)
  | n,[],_=>by
    have:zF n []=[]:=by cases n<;>simp [zF]
    rw[this];simp [KR,Lib.validD_nil]
  |0,b::t,h=>by simp at h
  | n+1,b::t,h=>by
    have j:(b::t)≠[]:=by simp
    have E:=Lib.decodeL_le (b::t) j;have F:=Lib.decodeL_width (b::t);obtain⟨ih1,ih2⟩:=a2I n ((b::t).drop (Lib.decodeL (b::t)).2) (by rw[aNE];simp only[aM5] at h|-;omega)
    have hr:KR (zF (n+1) (b::t))=Lib.encodeRune ((Lib.decodeL (b::t)).1:Int)++KR (zF n ((b::t).drop (Lib.decodeL (b::t)).2)):=by
      rw[zF,aM9 j];rfl
    rw[hr,Lib.validD_step _ j];rw[aNE] at ih1;by_cases hv:(Lib.decodeL (b::t)).1=65533/\(Lib.decodeL (b::t)).2=1
    · rw[aM4 hv,hv.1]
      have e3:(Lib.encodeRune ((65533:Nat):Int)).length=3:=rfl;rw[hv.2] at ih1|-;refine⟨by rw[aM7,e3];omega,λz=>?_,λz=>by cases z⟩;have:=aNz List.length z;rw[aM7,e3] at this;omega
    have z:=Lib.encode_decode (b::t) j hv
    rw[aM9 hv,z];refine⟨by rw[aM7,aNR];omega,?_⟩;rw[<-ih2];constructor
    · intro D
      exact List.append_cancel_left (D.trans (aOK _ _).symm)
    intro D
    rw[D,aOK]
def aGf (s:pI) (z:fit s):v6 s=some (Lib.validD s):=by
  have D:fit (fk s):=by
    have:=a2E s.length s;unfold fit fk at*;omega
  unfold v6;rw[aGc s z];simp only[aM3];rw[aGe (fk s) (λx j=>a2G _ _ x j) D];simp only[aM3];congr 1;have:=(a2I s.length s (aNt _)).2;rw[aNv,aNj];exact this
def BE (s:pI):Bool:=decide ((s.length:Int)<=4000)&&Lib.validD s
def XG (s:pI) (j:fit s):G9 s=some ()/\(((s.length:Int)<=4000)&&val (v6 s))=BE s:=by
  unfold G9;rw[aGf s j];exact⟨aM4 (λ_=>rfl),rfl⟩
def XH (s:pI) (j:fit s):G4 s=some ():=by
  unfold fit at j;unfold G4 WF;rw[aM4 (λ_=>by rw[aM4 pM];rfl)]
def xI {p:Prop}{α:Type}{v:α}:p->(some v).isSome=true:=λ_=>rfl
def XI {ρ:Type}{f:Int->Option (Int⊕(Unit⊕ρ))}{n:Nat}(p:Nat->Bool) (g:Nat->ρ)
    (hf: ∀(i:Nat),i<n->f i=if p i=true then some (.inr (.inr (g i))) else some (.inl (i+1)))
    (j:f n=some (.inr (.inl ()))):rC f 0=some (BC (λk=> .inr (g k)) (.inl ()) ((List.range n).findIdx? p)):=by
  refine yZ (l:=List.range n) p g (λi h=>?_) (by rw[List.length_range];exact j);have hi:i<n:=by rw[List.length_range] at h;exact h
  rw[List.getElem_range];exact hf i hi
def a2J (a b:pI):(!Op.bytesLess a b)=(Op.bytesLess b a||decide (b=a)):=by
  rw[bytesLess_eq,bytesLess_eq,aNv];simp only[aNS,aN5,aOt,aNj];constructor
  · intro h
    exact(List.le_iff_lt_or_eq.1 (List.not_lt.1 h))
  rintro(h|h)
  .exact List.lt_asymm h
  rw[h];exact List.lt_irrefl _
def XJ {n:Nat}{p:Nat->Bool}{b:Bool}:sK (some (BC (λ_=>Sum.inr false) (Sum.inl ()) ((List.range n).findIdx? p))) (λ_:Unit=>some b)=some (!((List.range n).any p)&&b):=by
  rw[BD];cases(List.range n).any p<;>rfl
def EJ (l:pJ):Bool:=decide ((l.length:Int)<=20)&& !(l.any λx=> !BE x)
def wv {α:Type}{l:List α}{p:α->Bool}{b:Bool}:sK (some (BC (λ_=>Sum.inr false) (Sum.inl ()) (l.findIdx? p))) (λ_:Unit=>some b)=some (!(l.any p)&&b):=by
  rw[BD];cases l.any p<;>rfl
def a2K (l:pJ) (z:fit l) (j: ∀x∈l,fit x):C6 l=some (EJ l):=by
  unfold fit at z
  have h:=yZ (f:=P4 l) (l:=l) (λx=> !BE x) (λ_=>false) (λi h=>by
    obtain⟨E,D⟩:=XG l[i] (j _ (aNc h));unfold P4;rw[aM4 (sI h),aM4 (rO h),v7 (t:= .str) h,E,aM3,D,aM4 (s7 pM)]) (by
    unfold P4;rw[aM9 (sO _)])
  unfold C6;rw[h,wv,EJ,Bool.and_comm]
def aGg (l:pJ) (z:fit l) (j: ∀x∈l,fit x):D8 l=some (l.any λx=> !BE x):=by
  unfold fit at z
  have h:=yZ (f:=OO l) (l:=l) (λx=> !BE x) (λk=>(k:Int)) (λi h=>by
    have D:=XH l[i] (j _ (aNc h));unfold OO X5;rw[aM4 (sI h),aM4 (rO h),v7 (t:= .str) h,D,aM3,aM3,aM4 (s7 pM)];rfl) (by
    unfold OO;rw[aM9 (sO _)])
  unfold D8 X8;rw[h,wm];show some (decide _)=_;rw[a2z]
def a2L (l:pJ) (z:fit l) (j: ∀x∈l,fit x):OS l=some ()/\(((l.length:Int)<=20)&&(!(val (D8 l))))=EJ l:=by
  unfold OS;rw[aGg l z j];exact⟨aM4 xI,rfl⟩
def ww (l:pJ) (i:Nat):Bool:=(!KP (l.getD i []))||(decide (0<i)&& !Op.bytesLess (l.getD (i-1) []) (l.getD i []))
def U3 (l:pJ):Bool:= !((List.range l.length).any (ww l))&&decide ((l.length:Int)<=20)
def a2M {l:pJ}{i:Nat}:qH .str l (i:Int)=l.getD i []:=by unfold qH;rw[aNL];rfl
def a2N {l:pJ}{i:Nat}:qH .str l ((i:Int)-1)=l.getD (i-1) []:=by
  unfold qH;rw[show ((i:Int)-1).toNat=i-1 by omega];rfl
def fm {i:Nat}:decide ((0:Int)<(i:Int))=decide (0<i):=by simp
def aGh (l:pJ) (z:fit l):JO l=some (U3 l):=by
  unfold fit at z
  have h:=XI (f:=N1 l) (n:=l.length) (ww l) (λ_=>false) (λi h=>by
    unfold N1;rw[aM4 (sI h),aM4 (rO h),a2M,a2N,a2y,aM3,fm]
    have h0: ∀q:Bool,((q==false)&&(decide (0<i)==true))=true->0<i:=λq j=>by
      simp only[aNf,aOQ,aNj] at j;exact j.2
    rw[aM4 (λj=>by have:=h0 _ j;unfold qG;omega),aM4 (λj=>by have:=h0 _ j;omega),aM4 (s7 pM)];rfl) (by
    unfold N1;rw[aM9 (sO _)])
  unfold JO;rw[h,XJ];rfl
def aGi (l:pJ) (D:fit l) (z: ∀x∈l,fit x):G5 l=some (U3 l):=by
  unfold fit at D
  have h:=XI (f:=NT l) (n:=l.length) (ww l) (λ_=>false) (λi h=>by
    unfold NT;have hf:fit (l.getD i []):=by rw[aNy,aNe h];exact z _ (aNc h)
    rw[aM4 (sI h),aM4 (rO h),a2M,a2N,a2w _ hf,aM3,fm]
    have h0: ∀q:Bool,((q==false)&&(decide (0<i)==true))=true->0<i:=λq j=>by
      simp only[aNf,aOQ,aNj] at j;exact j.2
    rw[aM4 (λ_=>rO h),aM4 (λj=>by have:=h0 _ j;unfold qG;omega),aM4 (λj=>by have:=h0 _ j;omega),aM4 (s7 pM),<-a2J];rfl) (by
    unfold NT;rw[aM9 (sO _)])
  unfold G5;rw[h,XJ];rfl
abbrev fD:C8:=([],([],()))
def wx (l:List C8) (i:Nat):Bool:=((!KP (l.getD i fD).1)||(!BE (l.getD i fD).2.1))||(decide (0<i)&& !Op.bytesLess (l.getD (i-1) fD).1 (l.getD i fD).1)
def FC (l:List C8):Bool:= !((List.range l.length).any (wx l))&&decide ((l.length:Int)<=20)
def a2O {l:List C8}{i:Nat}:qH sP l (i:Int)=l.getD i fD:=by unfold qH;rw[aNL];rfl
def a2P {l:List C8}{i:Nat}:qH sP l ((i:Int)-1)=l.getD (i-1) fD:=by
  unfold qH;rw[show ((i:Int)-1).toNat=i-1 by omega];rfl
def XK (x:C8):Prop:=fit x.1/\fit x.2.1
def fp {α:Type}{l:List α}{i:Nat}{d:α}(h:i<l.length):l.getD i d∈l:=by
  rw[aNy,aNe h];exact aNc h
def fq {i:Nat}{q:Bool}(j:((q==false)&&(decide (0<i)==true))=true):0<i:=by
  simp only[aNf,aOQ,aNj] at j;exact j.2
def a2Q (l:List C8) (D:fit l) (z: ∀x∈l,XK x):HU l=some (FC l):=by
  unfold fit at D
  have h:=XI (f:=OG l) (n:=l.length) (wx l) (λ_=>false) (λi h=>by
    unfold OG;have hf:=z _ (fp (d:=fD) h);rw[aM4 (sI h),aM4 (rO h),a2O,a2P,a2y,aM3,fm,XH _ hf.2];rw[aM4 xI,aM4 (λj=>by have:=fq j;unfold qG;omega),aM4 (λj=>by have:=fq j;omega),aM4 (s7 pM)];rfl) (by
    unfold OG;rw[aM9 (sO _)])
  unfold HU;rw[h,XJ];rfl
def a2R (l:List C8) (D:fit l) (z: ∀x∈l,XK x):FA l=some (FC l):=by
  unfold fit at D
  have h:=XI (f:=P5 l) (n:=l.length) (wx l) (λ_=>false) (λi h=>by
    unfold P5;have hf:=z _ (fp (d:=fD) h);obtain⟨F,E⟩:=XG _ hf.2;rw[aM4 (sI h),aM4 (rO h),a2O,a2P,a2w _ hf.1,aM3,fm,F,E];rw[aM4 (λ_=>rO h),aM4 xI,aM4 (λ_=>rO h),aM4 (λj=>by have:=fq j;unfold qG;omega),aM4 (λj=>by have:=fq j;omega),aM4 (s7 pM),<-a2J];rfl) (by
    unfold P5;rw[aM9 (sO _)])
  unfold FA;rw[h,XJ];rfl
abbrev y9:=w7
structure wy (x:y9):Prop where
  id:fit x.1
  src:fit x.2.1
  tgt:fit x.2.2.1
  com:fit x.2.2.2.1/\∀y∈x.2.2.2.1,fit y
  flg:fit x.2.2.2.2.1/\∀y∈x.2.2.2.2.1,fit y
  fld:fit x.2.2.2.2.2.2.1/\∀y∈x.2.2.2.2.2.2.1,XK y
def PG (x:y9):Bool:=
  (((((((!decide (x.1=[]))&&decide ((x.1.length:Int)<=200))&&BE x.1)&&BE x.2.1)&&BE x.2.2.1)&&EJ x.2.2.2.1)&&U3 x.2.2.2.2.1)&&(decide (0<=x.2.2.2.2.2.1)&&decide (x.2.2.2.2.2.1<=4))&&FC x.2.2.2.2.2.2.1
def aGj (x:y9) (h:wy x):OT x=some (PG x):=by
  obtain⟨t1,t2⟩:=a2L _ h.com.1 h.com.2;have e1:=aGh _ h.flg.1;have e2:=a2Q _ h.fld.1 h.fld.2;unfold OT;rw[XH _ h.id,XH _ h.src,XH _ h.tgt,t1,t2,e1,e2];have k: ∀s:pI,(decide ((s.length:Int)<=4000)&&Lib.validD s)=BE s:=λs=>rfl;rw[aM4 xI,aM3,aM4 xI,aM4 xI,aM4 xI,aM4 xI,k,k,k];unfold PG;show (if _ then some false else some _)=_;have a1:decide ((200:Int)<(x.1.length:Int))= !decide ((x.1.length:Int)<=200):=by rw[<-decide_not];exact aOE.2 pM
  have a2:decide (x.2.2.2.2.2.1<(0:Int))= !decide ((0:Int)<=x.2.2.2.2.2.1):=by rw[<-decide_not];exact aOE.2 pM
  have a3:decide ((4:Int)<x.2.2.2.2.2.1)= !decide (x.2.2.2.2.2.1<=(4:Int)):=by rw[<-decide_not];exact aOE.2 pM
  rw[a1,a2,a3];show (if _ then some false else some (((((BE x.2.1&&BE x.2.2.1)&&EJ x.2.2.2.1)&&U3 x.2.2.2.2.1))&&FC x.2.2.2.2.2.2.1))=_;generalize decide (x.1=[])=b1;generalize decide ((x.1.length:Int)<=200)=b2;generalize BE x.1=b3;generalize BE x.2.1=b4;generalize BE x.2.2.1=b5;generalize EJ x.2.2.2.1=b6;generalize U3 x.2.2.2.2.1=b7;generalize decide ((0:Int)<=x.2.2.2.2.2.1)=b8;generalize decide (x.2.2.2.2.2.1<=(4:Int))=b9;generalize FC x.2.2.2.2.2.2.1=b10;cases b1<;>cases b2<;>cases b3<;>cases b8<;>cases b9<;>simp
def aGk (x:y9) (h:wy x):TP x=some ()/\((((((((((!decide (x.1=([]:pI)))&&((x.1.length:Int)<=(200:Int)))&&(((x.1.length:Int)<=(4000:Int))&&(val (v6 x.1))))&&(((x.2.1.length:Int)<=(4000:Int))&&(val (v6 x.2.1))))&&(((x.2.2.1.length:Int)<=(4000:Int))&&(val (v6 x.2.2.1))))&&(val (C6 x.2.2.2.1)))&&(val (G5 x.2.2.2.2.1)))&&((0:Int)<=x.2.2.2.2.2.1))&&(x.2.2.2.2.2.1<=(4:Int)))&&(val (FA x.2.2.2.2.2.2.1)))=PG x:=by
  obtain⟨u1,v1⟩:=XG _ h.id;obtain⟨u2,v2⟩:=XG _ h.src;obtain⟨u3,v3⟩:=XG _ h.tgt;have e0:=a2K _ h.com.1 h.com.2;have e1:=aGi _ h.flg.1 h.flg.2;have e2:=a2R _ h.fld.1 h.fld.2;unfold TP;rw[u1,u2,u3,v1,v2,v3,e0,e1,e2];refine⟨?_,?_⟩
  .rw[aM4 xI,aM4 xI,aM4 xI,aM4 xI,aM4 xI,aM4 xI]
  unfold PG
  show (((((((((!_&&_)&&_)&&_)&&_)&&EJ x.2.2.2.1)&&U3 x.2.2.2.2.1)&&_)&&_)&&FC x.2.2.2.2.2.2.1)=_;simp only[Bool.and_assoc]
def sib (l:pI) (b:UInt8):AF l (b.toNat:Int)=Lib.indexByte l b:=by
  unfold AF;rw[aNL];congr 1;simp
def PH:pW->Int
  |some k=>k
  |none=> -1
def KS (a b:pI):tK (a++b)=tK a++tK b:=by simp [tK]
def PI (a:pI):tQ (tK a)=a:=by
  unfold tQ tK;rw[List.map_map]
  conv=>rhs;rw[<-List.map_id a]
  congr 1;funext b;simp
def XL {x:pT}{c:Int}(j:x.length<=10000000000000):FZ (x,()) c=some ():=by
  unfold FZ;exact aM4 (by simp only[List.length_singleton,aO3];omega)
def aGm {x:pT}{t:pI}(j:x.length<=10000000000000) (z:t.length<=4000000000):HL (x,()) t=some ():=by
  unfold HL;exact aM4 (by dsimp only;omega)
def a2S (x y:UInt8):(x==y)=decide (y=x):=by
  by_cases h:y=x
  .subst h;rw[beq_self_eq_true,aN6 rfl]
  rw[decide_eq_false h,beq_eq_false_iff_ne];exact λe=>h e.symm
def a2T {o:pW}:(if (PH o== -1)=true then(-1:Int) else PH o+1)=PH (o.map (· +1)):=by
  cases o with
  |none=>rfl
  | some k=>
    show (if ((k:Int)== -1)=true then(-1:Int) else(k:Int)+1)=((k+1:Nat):Int);rw[aM9 (by rw[aOQ];omega)];rfl
abbrev C4:=pI×(pJ×(List C8×(List w7×Unit)))
def a2U {v:Ty}(a b:pI) (y:v.den): ∀l:List (pI×v.den),sE .str v (rL .str v a y l) b=if b=a then y else sE .str v l b
  | []=>by
    show (if decide (b=a)=true then y else v.zero)=if b=a then y else v.zero;by_cases h:b=a<;>simp [h]
  | (x,z)::r=>by
    have ih:=a2U a b y r;show sE .str v (if decide (a=x)=true then(a,y)::r else(x,z)::rL .str v a y r) b=if b=a then y else(if decide (b=x)=true then z else sE .str v r b);by_cases h:a=x
    · rw[aM4 (aN6 h)]
      show (if decide (b=a)=true then y else sE .str v r b)=_;by_cases hb:b=a
      .rw[aM4 (aN6 hb),aM4 hb]
      rw[aM9 aPe,aM9 hb,aM9 (by rw[<-h];simpa using hb)]
    rw[aM9 aO4]
    show (if decide (b=x)=true then z else sE .str v (rL .str v a y r) b)=_;rw[ih];by_cases hb:b=a
    .rw[aM4 hb,aM4 hb,aM9 (by rw[hb];simpa using h)]
    rw[aM9 hb,aM9 hb]
def wz (es:List w7) (x:pI):Int×Bool:=BC (λk=>((k:Int),true)) ((0:Int),false) (es.findIdx? λy=>decide (y.1=x))
def aGn (c:C4) (x:pI) (j:c.2.2.2.1.length<=5000):RX c x=some (wz c.2.2.2.1 x):=by
  have h:=yZ (f:=MY c x) (l:=c.2.2.2.1) (λy=>decide (y.1=x)) (λk=>((k:Int),true)) (λi h=>by
    unfold MY;rw[aM4 (sI h),aM4 (rO h),v7 (t:=tJ) h,aM4 (s7 pM)]) (by
    unfold MY;rw[aM9 (sO _)])
  unfold RX;rw[h,wm];rfl
def xc (ids:pR) (es:List w7):Prop:= ∀x,sE .str .bool ids x=es.any λy=>decide (y.1=x)
def aGo {ids:pR}{es:List w7}(h:xc ids es) (e:w7) (x:pI) (z:e.1=x):xc (rL .str .bool x true ids) (es++[e]):=by
  intro y;rw[a2U,List.any_append,<-h y];by_cases j:y=x
  .rw[aM4 j];simp [z,j]
  rw[aM9 j]
  have:decide (e.1=y)=false:=by rw[z];simpa using λD=>j D.symm
  simp [this]
abbrev eD:y9:=([],([],([],([],([],(0,([],())))))))
def KT (es:List y9) (i:Nat):Bool:=((es.take i).any λy=>decide (y.1=(es.getD i eD).1))|| !PG (es.getD i eD)
def EK (c:C4):Bool:=((I9 c.1&&EJ c.2.1)&&FC c.2.2.1)&&(decide ((c.2.2.2.1.length:Int)<=1000)&& !((List.range c.2.2.2.1.length).any (KT c.2.2.2.1)))
def a2V {l:List y9}{i:Nat}:qH tJ l (i:Int)=l.getD i eD:=by unfold qH;rw[aNL];rfl
structure XM (c:C4):Prop where
  tag:fit c.1
  com:fit c.2.1/\∀y∈c.2.1,fit y
  fld:fit c.2.2.1/\∀y∈c.2.2.1,XK y
  len:c.2.2.2.1.length<=5000
  ent: ∀x∈c.2.2.2.1,wy x
def aGp {α:Type}{l:List α}{i:Nat}{d:α}(h:i<l.length):l.take (i+1)=l.take i++[l.getD i d]:=by
  rw[List.take_add_one,aNe h,aNy,aNe h];rfl
def a2W {c:C4}(j:XM c): ∀(n i:Nat) (m:pR),i+n=c.2.2.2.1.length->xc m (c.2.2.2.1.take i)->
    rC (I0 c) ((i:Int),m)=some (if (List.range' i n).any (KT c.2.2.2.1)=true then .inr false else .inl ())
  | 0,i,m,hi,_=>by
    have:i=c.2.2.2.1.length:=by omega
    subst this;refine xP ?_;unfold I0;dsimp only;rw[aM9 (sO _)];rfl
  | n+1,i,m,hi,hm=>by
    have h:i<c.2.2.2.1.length:=by omega
    have z:=j.ent _ (fp (d:=eD) h);have D:=j.len
    have hst:I0 c ((i:Int),m)=if KT c.2.2.2.1 i=true then some (.inr (.inr false)) else some (.inl (((i+1:Nat):Int),rL .str .bool (c.2.2.2.1.getD i eD).1 true m)):=by
      unfold I0;dsimp only;rw[aM4 (sI h),aM4 (rO h),a2V,hm,aGj _ z,aM4 xI,aM4 (s7 pM)];rfl
    rw[aOX,List.any_cons];by_cases hb:KT c.2.2.2.1 i=true
    · rw[aM4 hb] at hst
      rw[hb,Bool.true_or,aM4 rfl];exact xP hst
    rw[aM9 hb] at hst
    rw[AB hst,a2W j n (i+1) _ pM (by rw[aGp (d:=eD) h];exact aGo hm _ _ rfl)];simp only[aOY] at hb;rw[hb,Bool.false_or]
def aGq {c:C4}(j:XM c):TE c=some (EK c):=by
  obtain⟨t1,t2⟩:=a2L _ j.com.1 j.com.2;have e2:=a2Q _ j.fld.1 j.fld.2;have z:=a2W j c.2.2.2.1.length 0 [] pM (λx=>by rfl);rw[<-List.range_eq_range'] at z;have D:rC (I0 c) ((0:Int),[])=_:=z;have a1:decide ((1000:Int)<(c.2.2.2.1.length:Int))= !decide ((c.2.2.2.1.length:Int)<=1000):=by rw[<-decide_not];exact aOE.2 pM
  unfold TE;rw[aF2,aM3,t1,t2,e2,aM4 xI,aM4 xI,D,a1];unfold EK;show (if (((!I9 c.1)||(!EJ c.2.1))||(!FC c.2.2.1)||_)=true then some false else _)=_
  generalize I9 c.1=b1;generalize EJ c.2.1=b2;generalize FC c.2.2.1=b3;generalize decide ((c.2.2.2.1.length:Int)<=1000)=b4;generalize (List.range c.2.2.2.1.length).any (KT c.2.2.2.1)=b5;cases b1<;>cases b2<;>cases b3<;>cases b4<;>cases b5<;>rfl
def aGr {es:List y9}{i:Nat}(h:i<es.length):decide ((wz es (es.getD i eD).1).1=(i:Int))= !((es.take i).any λy=>decide (y.1=(es.getD i eD).1)):=by
  have G:es.getD i eD=es[i]:=by rw[aNy,aNe h];rfl
  unfold wz;cases hf:es.findIdx? λy=>decide (y.1=(es.getD i eD).1) with
  | none=>
    have:=List.findIdx?_eq_none_iff.1 hf es[i] (aNc h);rw[G] at this;simp at this
  | some k=>
    obtain⟨hk,I,F⟩:=List.findIdx?_eq_some_iff_getElem.1 hf;simp only[aNj,aN5] at I F;show decide ((k:Int)=(i:Int))=_;rw[aNv,aNj,aNS,aO2]
    have M:k<=i:=by
      rcases aOi i k with z|D
      .exact absurd (aNz Prod.fst G.symm) (F i z)
      exact D
    constructor
    · intro O x hxm
      obtain⟨j,K,rfl⟩:=aOC hxm;rw[aNR] at K;rw[List.getElem_take];have:=F j pM;simpa using this
    intro E
    rcases aOi k i with z|D
    · have:=E es[k] (by rw[aOM];exact⟨k,pM,rfl⟩)
      simp [I] at this
    omega
def aGs (c:C4) (j:XM c):TN c=some ((I9 c.1&&EJ c.2.1)&&FC c.2.2.1):=by
  unfold TN;rw[aF0 _ j.tag,aM3,a2K _ j.com.1 j.com.2,a2R _ j.fld.1 j.fld.2,aM4 xI,aM4 xI];rfl
def aGt {c:C4}(j:XM c):TS c=some (EK c):=by
  have z:=j.len
  have h:=XI (f:=P9 c) (n:=c.2.2.2.1.length) (KT c.2.2.2.1) (λ_=>false) (λi h=>by
    have D:=j.ent _ (fp (d:=eD) h);obtain⟨u,v⟩:=aGk _ D;unfold P9;rw[aM4 (sI h),aM4 (rO h),a2V,aGn c _ z,aM3,aM4 (λ_=>rO h),u,aM4 xI,v,aGr h,aM4 (s7 pM),Bool.not_not];rfl) (by
    unfold P9;rw[aM9 (sO _)])
  have a1:decide ((1000:Int)<(c.2.2.2.1.length:Int))= !decide ((c.2.2.2.1.length:Int)<=1000):=by rw[<-decide_not];exact aOE.2 pM
  unfold TS;rw[aGs c j,aM3,h,XJ,a1];unfold EK;generalize ((I9 c.1&&EJ c.2.1)&&FC c.2.2.1)=b1;generalize decide ((c.2.2.2.1.length:Int)<=1000)=b2;generalize (List.range c.2.2.2.1.length).any (KT c.2.2.2.1)=b3;cases b1<;>cases b2<;>cases b3<;>rfl
def uG:Nat:=140737488351232
def a2X {l:pJ}(F:l.length<=uG) (j: ∀x∈l,x.length<=uG): ∀(m i:Nat) (n:Int),i+m=l.length->0<=n->n<=1125899906842624->
    ∃r,rC (FX l) (n,(i:Int))=some r/\n<=r/\r<=1125899906842624/\(r<1099511627776->∀x∈l.drop i,n+(x.length:Int)<=r)
  | 0,i,n,hi,h0,z=>by
    have:i=l.length:=by omega
    subst this;refine⟨n,xP ?_,aN2 _,z,λ_ x j=>by rw[aNH] at j;cases j⟩;unfold FX;dsimp only;rw[aM9 pO]
  | m+1,i,n,hi,h0,z=>by
    have h:i<l.length:=by omega
    by_cases E:n<1099511627776
    · have D:=j _ (aNc h)
      unfold uG at D F
      have hst:FX l (n,(i:Int))=some (.inl (n+(l[i].length:Int),((i+1:Nat):Int))):=by
        unfold FX;dsimp only;rw[aM4 (by simp [h,E]),aM4 (rO h),v7 (t:= .str) h,aM4 aPv,aM4 aPv];rfl
      obtain⟨r,e,e1,e2,e3⟩:=a2X (by unfold uG;exact F) j m (i+1) (n+(l[i].length:Int)) pM pM pM;refine⟨r,by rw[AB hst,e],pM,e2,λhr x hxm=>?_⟩;rw[aNm h] at hxm;rcases aNk.1 hxm with rfl|hxm
      .omega
      have:=e3 hr x hxm
      omega
    refine⟨n,xP ?_,aN2 _,z,λhr=>by omega⟩
    unfold FX;dsimp only;rw[aM9 (by simp [E])]
def a2Y {l:List C8}(F:l.length<=uG) (j: ∀x∈l,x.1.length<=uG/\x.2.1.length<=uG): ∀(m i:Nat) (n:Int),i+m=l.length->0<=n->n<=1125899906842624->
    ∃r,rC (FY l) (n,(i:Int))=some r/\n<=r/\r<=1125899906842624/\(r<1099511627776->∀x∈l.drop i,n+(x.1.length:Int)+(x.2.1.length:Int)<=r)
  | 0,i,n,hi,h0,z=>by
    have:i=l.length:=by omega
    subst this;refine⟨n,xP ?_,aN2 _,z,λ_ x j=>by rw[aNH] at j;cases j⟩;unfold FY;dsimp only;rw[aM9 pO]
  | m+1,i,n,hi,h0,z=>by
    have h:i<l.length:=by omega
    by_cases E:n<1099511627776
    · have D:=j _ (aNc h)
      unfold uG at D F
      have hst:FY l (n,(i:Int))=some (.inl (n+(l[i].1.length:Int)+(l[i].2.1.length:Int),((i+1:Nat):Int))):=by
        unfold FY;dsimp only;rw[aM4 (by simp [h,E]),aM4 (rO h),v7 (t:= .pair .str (.pair .str .unit)) h,aM4 aPv,aM4 (rO h),aM4 aPv,aM4 aPv];rfl
      obtain⟨r,e,e1,e2,e3⟩:=a2Y (by unfold uG;exact F) j m (i+1) (n+(l[i].1.length:Int)+(l[i].2.1.length:Int)) pM pM pM;refine⟨r,by rw[AB hst,e],pM,e2,λhr x hxm=>?_⟩;rw[aNm h] at hxm;rcases aNk.1 hxm with rfl|hxm
      .omega
      have:=e3 hr x hxm
      omega
    refine⟨n,xP ?_,aN2 _,z,λhr=>by omega⟩
    unfold FY;dsimp only;rw[aM9 (by simp [E])]
def IB (l:pJ):Prop:=l.length<=6000/\∀x∈l,x.length<=6000
def ft (l:List C8):Prop:=l.length<=6000/\∀x∈l,x.1.length<=6000/\x.2.1.length<=6000
def xd {l:pJ}{f:List C8}(D:l.length<=uG) (F: ∀x∈l,x.length<=uG) (hf:f.length<=uG) (E: ∀x∈f,x.1.length<=uG/\x.2.1.length<=uG):
    ∃r,A0 l f=some r/\0<=r/\r<=1125899906842624/\(r<=6000->IB l/\ft f):=by
  have j:=D;have z:=hf;unfold uG at j z;obtain⟨r,e,e1,e2,e3⟩:=a2X D F l.length 0 ((l.length:Int)+(f.length:Int)) pM pM pM;obtain⟨r',k,k1,k2,k3⟩:=a2Y hf E f.length 0 r pM pM e2;have e':rC (FX l) ((l.length:Int)+(f.length:Int),(0:Int))=some r:=e;have k':rC (FY f) (r,(0:Int))=some r':=k;refine⟨r',?_,pM,k2,λhr=>⟨⟨pM,λx hxm=>?_⟩,⟨pM,λx hxm=>?_⟩⟩⟩
  · unfold A0
    rw[aM4 aPv,e'];unfold rA;rw[aM3,k',aM3]
  · have:=e3 pM x (by rw[aNG];exact hxm)
    omega
  have:=k3 pM x (by rw[aNG];exact hxm)
  omega
structure xe (x:y9):Prop where
  id:x.1.length<=uG
  src:x.2.1.length<=uG
  tgt:x.2.2.1.length<=uG
  com:x.2.2.2.1.length<=uG/\∀y∈x.2.2.2.1,y.length<=uG
  flg:x.2.2.2.2.1.length<=uG/\∀y∈x.2.2.2.2.1,y.length<=uG
  fld:x.2.2.2.2.2.2.1.length<=uG/\∀y∈x.2.2.2.2.2.2.1,y.1.length<=uG/\y.2.1.length<=uG
structure U4 (x:y9):Prop where
  id:x.1.length<=6000
  src:x.2.1.length<=6000
  tgt:x.2.2.1.length<=6000
  com:IB x.2.2.2.1
  flg:IB x.2.2.2.2.1
  fld:ft x.2.2.2.2.2.2.1
def aGu (x:y9) (h:xe x): ∃b:Bool,RY x=some ()/\
    (((((x.1.length:Int)+(x.2.1.length:Int))+(x.2.2.1.length:Int))<=(6000:Int))&&(((val (A0 x.2.2.2.1 x.2.2.2.2.2.2.1))+(val (A0 x.2.2.2.2.1 ([]:List wT))))<=(6000:Int)))=b/\(b=true->U4 x):=by
  obtain⟨r,e,e1,e2,e3⟩:=xd h.com.1 h.com.2 h.fld.1 h.fld.2;obtain⟨r',k,k1,k2,k3⟩:=xd (f:=[]) h.flg.1 h.flg.2 (by unfold uG;simp) (λx z=>by cases z);have a1:=h.id;have a2:=h.src;have a3:=h.tgt;unfold uG at a1 a2 a3;refine⟨_,?_,rfl,λhb=>?_⟩
  · unfold RY
    rw[e,k,aM4 aPv,aM4 aPv,aM4 xI,aM4 xI,aM4 (λ_=>by show qG (r+r');unfold qG;omega)]
  rw[e,k] at hb
  simp only[aNf,aNj] at hb;obtain⟨D,j⟩:=hb;have j:r+r'<=6000:=j;obtain⟨p,q⟩:=e3 pM;obtain⟨p',_⟩:=k3 pM;exact⟨pM,pM,pM,p,p',q⟩
structure XN (c:C4):Prop where
  tag:c.1.length<=uG
  com:c.2.1.length<=uG/\∀y∈c.2.1,y.length<=uG
  fld:c.2.2.1.length<=uG/\∀y∈c.2.2.1,y.1.length<=uG/\y.2.1.length<=uG
  ent: ∀x∈c.2.2.2.1,xe x
structure xf (c:C4):Prop where
  tag:c.1.length<=100
  com:IB c.2.1
  fld:ft c.2.2.1
  len:c.2.2.2.1.length<=1000
  ent: ∀x∈c.2.2.2.1,U4 x
def a2Z {c:C4}(z:XN c) (D:c.2.2.2.1.length<=12): ∀(n i:Nat),i+n=c.2.2.2.1.length->
    ∃r,rC (HP c) (i:Int)=some r/\(r= .inr false\/(r= .inl ()/\∀x∈c.2.2.2.1.drop i,U4 x))
  | 0,i,hi=>by
    have:i=c.2.2.2.1.length:=by omega
    subst this;refine⟨.inl (),xP ?_,.inr ⟨rfl,λx j=>by rw[aNH] at j;cases j⟩⟩;unfold HP;rw[aM9 (sO _)]
  | n+1,i,hi=>by
    have h:i<c.2.2.2.1.length:=by omega
    obtain⟨b,e1,e2,e3⟩:=aGu _ (z.ent _ (aNc h))
    have hst:HP c (i:Int)=if (!b)=true then some (.inr (.inr false)) else some (.inl ((i+1:Nat):Int)):=by
      unfold HP;rw[aM4 (sI h),aM4 (rO h),v7 (t:=tJ) h,e1,aM3,e2,aM4 (s7 pM)];rfl
    cases b with
    |false=>exact⟨_,xP hst,.inl rfl⟩
    | true=>
      obtain⟨r,k,k2⟩:=a2Z z D n (i+1) pM;refine⟨r,by rw[AB hst,k],k2.imp id λ⟨a,b⟩=>⟨a,λx j=>?_⟩⟩;rw[aNm h] at j;rcases aNk.1 j with rfl|j
      .exact e3 rfl
      exact b x j
def aGv {c:C4}(j:XN c): ∃b,SC c=some b/\(b=true->xf c):=by
  obtain⟨r,e,e1,e2,e3⟩:=xd j.com.1 j.com.2 j.fld.1 j.fld.2;unfold SC;rw[e,aM4 xI];by_cases hb:((((100:Int)<(c.1.length:Int))||((6000:Int)<(val (some r))))||((12:Int)<(c.2.2.2.1.length:Int)))=true
  · rw[aM4 hb]
    exact⟨false,rfl,λh=>by cases h⟩
  rw[aM9 hb]
  simp only[aOt,aNj] at hb;have hr: ¬(6000:Int)<r:=λh=>hb (.inl (.inr h));obtain⟨p,q⟩:=e3 pM;obtain⟨r',k,k2⟩:=a2Z j pM c.2.2.2.1.length 0 pM;have k':rC (HP c) (0:Int)=some r':=k;rw[k'];rcases k2 with rfl|⟨rfl,k3⟩
  .exact⟨false,rfl,λh=>by cases h⟩
  exact⟨true,rfl,λ_=>⟨pM,p,q,pM,by rw[aNG] at k3;exact k3⟩⟩
def U5 {l:pI}(h:l.length<=6000):fit l:=by unfold fit;omega
def xg {l:pJ}(h:IB l):fit l/\∀y∈l,fit y:=⟨by have:=h.1;unfold fit;omega,λy j=>U5 (h.2 y j)⟩
def a22 {l:List C8}(h:ft l):fit l/\∀y∈l,XK y:=⟨by have:=h.1;unfold fit;omega,λy j=>⟨U5 (h.2 y j).1,U5 (h.2 y j).2⟩⟩
def a23 {σ ρ α:Type}{f:σ->Option (σ⊕ρ)}(st:Int->List α->σ) (out:List α->ρ) {n M B:Nat}(g:Nat->List α) (j: ∀i,i<n->(g i).length<=B)
    (hf: ∀(i:Nat) s,i<n->s.length+B<=M->f (st i s)=some (.inl (st ((i:Int)+1) (s++g i)))) (z: ∀s,f (st n s)=some (.inr (out s))):
    ∀(k i:Nat) (s:List α),i+k=n->s.length+k*B<=M->rC f (st i s)=some (out (s++(List.range' i k).flatMap g))
  | 0,i,s,hi,_=>by
    have:i=n:=by omega
    subst this;rw[xP (z s)];simp
  | k+1,i,s,hi,D=>by
    rw[aN0] at D;have E:=j i pM;rw[AB (hf i s pM pM),show ((i:Int)+1)=((i+1:Nat):Int) by omega,a23 st out g j hf z k (i+1) (s++g i) pM aPA,aOX,aNX,aNd]
def a24 {α:Type}{g:Nat->List α}{B:Nat}: ∀(k i:Nat),(∀j,i<=j->j<i+k->(g j).length<=B)->((List.range' i k).flatMap g).length<=k*B
  |0,i,_=>by simp
  | k+1,i,h=>by
    rw[aOX,aNX,aM7,aN0];have D:=a24 k (i+1) λj D z=>h j pM pM;have z:=h i pM pM;omega
def a25 {σ ρ α:Type}{f:σ->Option (σ⊕ρ)}(st:Int->List α->σ) (out:List α->ρ) {n M B:Nat}(g:Nat->List α) (j: ∀i,i<n->(g i).length<=B) (s:List α) (D:s.length+n*B<=M)
    (hf: ∀(i:Nat) s,i<n->s.length+B<=M->f (st i s)=some (.inl (st ((i:Int)+1) (s++g i)))) (z: ∀s,f (st n s)=some (.inr (out s))):
    rC f (st 0 s)=some (out (s++(List.range' 0 n).flatMap g)):=a23 st out g j hf z n 0 s pM D
def BF {α β:Type}{l:List α}{h:α->List β}{B:Nat}(hb: ∀x∈l,(h x).length<=B):(l.flatMap h).length<=l.length*B:=by
  induction l with
  |nil=>simp
  | cons x l ih=>
    rw[aNX,aM7,aM5,aN0];have D:=hb x aNq;have z:=ih λy j=>hb y (aNp _ j);omega
def PJ (n b:Nat) (first:Bool):pI:=(NU (n:Int) (b:Int) first).getD []
def XO (n:Nat) (s:pI) (i:Nat):pI:=PJ n (s.getD i 0).toNat (decide (i=0))
def U6 (n:Nat) (s:pI):pI:=(List.range' 0 s.length).flatMap (XO n s)
def a26 {s:pI}{i:Nat}:qZ s (i:Int)=((s.getD i 0).toNat:Int):=by unfold qZ;rw[aNL]
def a27 {i:Nat}:decide ((i:Int)=0)=decide (i=0):=aOE.2 pM
def a28 {l:pX}{g:Nat->pI}:l.flatMap (λi=>tK (g i))=tK (l.flatMap g):=by
  induction l with
  |nil=>rfl
  |cons x l ih=>rw[aNX,aNX,KS,ih]
def xJ (l:pI):(tK l).length=l.length:=by simp [tK]
def KU (c:Int):Bool:=decide (c=123)||decide (c=125)||decide (c=60)||decide (c=62)||decide (c=35)||decide (c=92)
def xh (c:Int):Bool:=(decide (97<=c)&&decide (c<=122))||(decide (65<=c)&&decide (c<=90))||(decide (48<=c)&&decide (c<=57))
def fu (c:Int):Bool:=xh c||decide (c=95)||decide (c=45)
def a29 (c:Int):Bool:=fu c||decide (c=46)||decide (c=61)
def U7 (c:Int):Bool:=decide (97<=c)&&decide (c<=122)
def uE (c:UInt8):Bool:=KU c.toNat
def sV (c:UInt8):Bool:=fu c.toNat
def xK (c:UInt8):Bool:=a29 c.toNat
def uO:pI->Bool
 |[]=>false
 |b::t=>decide (t.length+1<=40)&&U7 b.toNat&&(b::t).all sV
def GF {α:Type}(p:α->Bool) (l:List α):(l.any λb=> !p b)= !(l.all p):=by simp [List.not_all_eq_any_not]
def XP (b:UInt8) (t:pI):uO (b::t)=(decide (t.length+1<=40)&&U7 b.toNat&&(b::t).all sV):=rfl
def xi (c:Int):JS c=KU c:=by
 unfold JS KU
 repeat' split
 all_goals simp_all
def aGw (s:pI) (j:fit s):rC (K3 s) 0=some (if s.all sV=true then .inl () else .inr false):=by
 unfold fit at j;have h:=yZ (f:=K3 s) (l:=s) (λb=> !sV b) (λ_=>false) (λi h=>by
  unfold K3;rw[aM4 (sI h),aM4 (rO h),wF h,aM4 (s7 pM)];rfl) (by
  unfold K3;rw[aM9 (sO _)])
 rw[h,BD,GF];cases s.all sV<;>rfl
def KV (s:pI) (D:fit s):vS s=some (uO s):=by
 unfold vS;rw[aGw s D];cases s with
 |nil=>rfl
 |cons b t=>
  have z:qZ (b::t) (0:Int)=(b.toNat:Int):=wF (i:=0) pO;by_cases j:(b::t).all sV=true
  .rw[aM4 j];show (if _ then _ else none:Option Bool)=_;rw[aM4 (λ_=>⟨aN2 0,by simp only[aM5];omega⟩),z,XP,j];have F:decide ((1:Int)<=((b::t).length:Int))=true:=by simp;omega
   have E:decide (((b::t).length:Int)<=40)=decide (t.length+1<=40):=by
    rw[aNv];simp;omega
   rw[F,E];simp [U7]
  rw[aM9 j,XP];simp only[aOY] at j;rw[j,Bool.and_false];rfl
def PL (s:pI) (E:fit s):AL s=some (uO s):=by
 unfold fit at E;unfold AL;cases s with
 |nil=>simp [uO]
 |cons b t=>
  have D:qZ (b::t) (0:Int)=(b.toNat:Int):=wF (i:=0) pO;rw[aM4 (λ_=>⟨aN2 0,by simp only[aM5];omega⟩),aM4 (λ_=>⟨aN2 0,by simp only[aM5];omega⟩),D];have h:=yZ (f:=O4 (b::t)) (l:=b::t) (λb=> !sV b) (λ_=>false) (λi h=>by
   unfold O4;rw[aM4 (sI h),aM4 (rO h),aM4 (λ_=>rO h),aM4 (λ_=>rO h),wF h,aM4 (s7 pM)];congr 1;rw[aNv];simp only[sV,fu,xh];generalize ((b::t)[i].toNat:Int)=c;simp<;>omega) (by
   unfold O4;rw[aM9 (sO _)])
  have z:=GF sV (b::t);by_cases j:(decide (t.length+1<=40)&&U7 b.toNat)=true
  .rw[aM9 (by
    simp only[aNf,aNj,U7] at j;simp;omega),h,BD,z,XP,j]
   cases(b::t).all sV<;>rfl
  rw[aM4 (by
   simp only[aNf,aNj,U7] at j;simp;omega),XP]
  simp only[aOY] at j;rw[j];rfl
def rZ (p:UInt8->Bool):pI->Nat
 |[]=>0
 |c::r=>if p c then rZ p r+1 else 0
def GG (p:UInt8->Bool): ∀s:pI,rZ p s<=s.length
 |[]=>aNt _
 |c::r=>by
  unfold rZ;have:=GG p r;split<;>simp<;>omega
def fv (p:UInt8->Bool): ∀s:pI,(s.findIdx? λb=> !p b)=if rZ p s<s.length then some (rZ p s) else none
 |[]=>rfl
 |c::r=>by
  rw[aOp];unfold rZ;cases hp:p c with
  |true=>
   simp only[Bool.not_true,aOc,aNJ,aOh,aM5];rw[fv p r];by_cases h:rZ p r<r.length
   .rw[aM4 h,aM4 pM];rfl
   .rw[aM9 h,aM9 pM];rfl
  |false=>simp
def aGx (s:pI) (z:fit s):SJ s=some ((rZ xK s:Nat):Int):=by
 unfold fit at z;have h:=yZ (f:=O0 s) (l:=s) (λb=> !xK b) (λk=>(k:Int)) (λi h=>by
  unfold O0;rw[aM4 (sI h),aM4 (rO h),aM4 (λ_=>rO h),aM4 (λ_=>rO h),aM4 (λ_=>rO h),aM4 (λ_=>rO h),wF h,aM4 (s7 pM)];congr 1;rw[aNv];simp only[xK,a29,fu,xh];generalize (s[i].toNat:Int)=c;simp<;>omega) (by
  unfold O0;rw[aM9 (sO _)])
 unfold SJ;rw[h,fv];have:=GG xK s;by_cases j:rZ xK s<s.length
 .rw[aM4 j];rfl
 rw[aM9 j];show some (s.length:Int)=_;rw[show rZ xK s=s.length by omega]
def fw {f:Int->Option (Int⊕Int)}{s:pI}(p:UInt8->Bool) (hf: ∀(i:Nat) (h:i<s.length),f i=if p s[i]=true then some (.inl (i+1)) else some (.inr i)) (D:f s.length=some (.inr s.length)):
  ∀(n j:Nat),j+n=s.length->rC f j=some ((j+rZ p (s.drop j):Nat):Int)
 |0,j,E=>by
  have:j=s.length:=by omega
  subst this;rw[aNH,tA,D];rfl
 |n+1,j,E=>by
  have z:j<s.length:=by omega
  rw[tA,hf j z,aNm z];unfold rZ;by_cases hp:p s[j]=true
  .rw[aM4 hp,aM4 hp];show rC f ((j:Int)+1)=_;have:=fw p hf D n (j+1) pM;rw[show ((j:Int)+1)=((j+1:Nat):Int) by omega,this];congr 2;omega
  rw[aM9 hp,aM9 hp];rfl
def aGy (s:pI) (z:fit s) (j:Nat) (D:j<=s.length):rC (OU s) j=some ((j+rZ xK (s.drop j):Nat):Int):=by
 unfold fit at z;refine fw xK (λi h=>?_) ?_ (s.length-j) j pM
 .unfold OU;rw[aM4 (λ_=>rO h),wF h,aM4 (s7 pM),sI h];rfl
 unfold OU;rw[aM4 (λh=>absurd h pO),aM9 pO]
def aGz (s:pI) (z:fit s) (j:Nat) (D:j<=s.length):rC (OM s) j=some ((j+rZ sV (s.drop j):Nat):Int):=by
 unfold fit at z;refine fw sV (λi h=>?_) ?_ (s.length-j) j pM
 .unfold OM;rw[aM4 (λ_=>rO h),wF h,aM4 (s7 pM),sI h];rfl
 unfold OM;rw[aM4 (λh=>absurd h pO),aM9 pO]
def uK:pI->Nat
 |[]=>0
 |[c]=>if uE c=true then 0 else 1
 |c::d::r=>if uE c=true then(if c=92/\uE d=true then uK r+2 else 0) else uK (d::r)+1
def KW: ∀s:pI,uK s<=s.length
 |[]=>aNt _
 |[c]=>by
  unfold uK;split
  .exact aOz _
  .exact aNt _
 |c::d::r=>by
  unfold uK;have z:=KW r;have j:=KW (d::r);simp only[aM5] at j|-;split
  .split
   .omega
   omega
  omega
def fy {c:UInt8}:decide ((c.toNat:Int)=92)=decide (c=92):=by
 rw[aNv];simp only[aNj];constructor
 .intro h;have:c.toNat=92:=by omega
  exact UInt8.toNat.inj this
 intro h;subst h;rfl
def DB:pI->Bool
 |d::_=>uE d
 |[]=>false
def a3a (c:UInt8) (r:pI):uK (c::r)=if uE c=true then(if c=92/\DB r=true then uK (r.drop 1)+2 else 0) else uK r+1:=by
 cases r with
 |nil=>
  unfold uK;simp only[DB,aNJ,and_false,aOh]
  try rfl
 |cons d r'=>rw[uK];rfl
def ga {ρ:Type}{f:Int->Option (Int⊕ρ)}{s:pI}(g:Nat->ρ) (e:ρ)
  (hf: ∀(i:Nat) (h:i<s.length),f i=if uE s[i]=true then(if s[i]=92/\DB (s.drop (i+1))=true then some (.inl ((i+2:Nat):Int)) else some (.inr (g i))) else some (.inl ((i+1:Nat):Int)))
  (F:f s.length=some (.inr e)): ∀(n j:Nat),s.length<=j+n->j<=s.length->rC f j=some (if j+uK (s.drop j)<s.length then g (j+uK (s.drop j)) else e)
 |n,j,I,K=>by
  by_cases z:j<s.length
  .cases n with
   |zero=>omega
   |succ n=>
    rw[tA,hf j z,aNm z,a3a];by_cases E:uE s[j]=true
    .rw[aM4 E,aM4 E];by_cases D:s[j]=92/\DB (s.drop (j+1))=true
     .rw[aM4 D,aM4 D];have G:j+1<s.length:=by
       by_cases G:j+1<s.length
       .exact G
       have:=D.2;rw[List.drop_eq_nil_of_le pM] at this;cases this
      show rC f ((j+2:Nat):Int)=_;rw[ga g e hf F n (j+2) pM pM,aOa,show j+1+1=j+2 by omega,show j+(uK (s.drop (j+2))+2)=j+2+uK (s.drop (j+2)) by omega]
     rw[aM9 D,aM9 D];show some (g j)=_;rw[aOd,aM4 z]
    rw[aM9 E,aM9 E];show rC f ((j+1:Nat):Int)=_;rw[ga g e hf F n (j+1) pM pM,show j+(uK (s.drop (j+1))+1)=j+1+uK (s.drop (j+1)) by omega]
  have:j=s.length:=by omega
  subst this;rw[aNH,tA,F];show some e=_;rw[aM9 (by simp [uK])]
def gc {s:pI}{i:Nat}(h:i+1<s.length):DB (s.drop (i+1))=uE s[i+1]:=by
 rw[aNm h];rfl
def gd {s:pI}{i:Nat}(h: ¬i+1<s.length):DB (s.drop (i+1))=false:=by
 rw[List.drop_eq_nil_of_le pM];rfl
def a3b (s:pI) (G:fit s):O2 s=some ((uK s:Nat):Int):=by
 unfold fit at G;have h:=ga (f:=O1 s) (s:=s) (λi=> .inr (i:Int)) (.inl ()) (λi h=>by
  unfold O1;rw[aM4 (sI h),aM4 (rO h),wF h,xi,aM4 (s7 pM)];show (if (!uE s[i])=true then _ else _:Option (Int⊕(Unit⊕Int)))=_;cases K:uE s[i] with
  |false=>simp
  |true=>
   rw[aM9 pO,aM4 rfl,aM4 (rO h),aM4 (λ_=>s7 pM),aM4 (λ_=>s7 pM)];by_cases E:i+1<s.length
   .have hb:=wF E;rw[Int.natCast_add,Int.natCast_one] at hb;rw[aM4 (λ_=>⟨pM,pM⟩),hb,xi,gc E];have D:decide ((i:Int)+1=(s.length:Int))=false:=by simp;omega
    rw[D,Bool.or_false];by_cases j:s[i]=92
    .have z:decide ((s[i].toNat:Int)=92)=true:=by rw[fy];simpa using j
     rw[z];show (if (!uE s[i+1])=true then _ else _:Option (Int⊕(Unit⊕Int)))=_;cases I:uE s[i+1] with
     |true=>
      rw[aM9 pO,aM4 aPv,aM4 aPv,aM4 ⟨j,rfl⟩];congr 3
     |false=>rw[aM4 pO,aM9 pO]
    have z:decide ((s[i].toNat:Int)=92)=false:=by rw[fy];simpa using j
    rw[z,aM4 pO,aM9 (λh=>j h.1)]
   have D:decide ((i:Int)+1=(s.length:Int))=true:=by simp;omega
   rw[D,aM4 pO,aM4 pO,gd E,aM9 pO]) (by
  unfold O1;rw[aM9 (sO _)]) s.length 0 pM pM
 unfold O2;rw[show (0:Int)=((0:Nat):Int) from rfl,h];simp only[aNF,aNG];have:=KW s;by_cases F:uK s<s.length
 .rw[aM4 F];rfl
 rw[aM9 F];show some (s.length:Int)=_;rw[show uK s=s.length by omega]
def aGA (s:pI) (K:fit s) (j:Nat) (M:j<=s.length):S3 s j=some ((j+uK (s.drop j):Nat):Int):=by
 unfold fit at K;have h:=ga (f:=N7 s) (s:=s) (λi=> .inr (i:Int)) (.inl (s.length:Int)) (λi h=>by
  unfold N7;rw[aM4 (sI h),aM4 (rO h),wF h,aM4 (λ_=>s7 pM),aM4 (λ_=>s7 pM)];have z: ∀c:UInt8,(((((decide ((c.toNat:Int)=123)||decide ((c.toNat:Int)=125))||decide ((c.toNat:Int)=60))||decide ((c.toNat:Int)=62))||decide ((c.toNat:Int)=35))||decide ((c.toNat:Int)=92))=uE c:=λ_=>rfl
  by_cases G:i+1<s.length
  .have hb:=wF G;rw[Int.natCast_add,Int.natCast_one] at hb;have F:decide ((i:Int)+1<(s.length:Int))=true:=by simp;omega
   rw[aM4 (λ_=>⟨pM,pM⟩),hb,z,z,gc G,F,Bool.and_true,fy];by_cases D:s[i]=92
   .have E:uE s[i]=true:=by rw[D];rfl
    rw[E,aM4 rfl,D];cases O:uE s[i+1] with
    |true=>rw[aM4 pN,aM4 aPv,aM4 ⟨rfl,rfl⟩];rfl
    |false=>rw[aM9 pO,aM4 (rO h),aM9 pO,aM9 pO]
   rw[aM9 (by simp [D]),aM4 (rO h)];cases E:uE s[i] with
   |true=>rw[aM9 pO,aM4 rfl,aM9 (λh=>D h.1)]
   |false=>rw[aM4 pO,aM4 (s7 pM),aM9 pO];rfl
  .have F:decide ((i:Int)+1<(s.length:Int))=false:=by simp;omega
   rw[F,Bool.and_false,aM4 (λh=>by simp at h),aOs,aM9 pO,z,gd G,aM4 (rO h)];cases E:uE s[i] with
   |true=>rw[aM9 pO,aM4 rfl,aM9 pO]
   |false=>rw[aM4 pO,aM4 (s7 pM),aM9 pO];rfl) (by
  unfold N7;rw[aM9 (sO _)]) s.length j pM M
 unfold S3;rw[h];have:=KW (s.drop j);rw[aNE] at this;by_cases I:j+uK (s.drop j)<s.length
 .rw[aM4 I];rfl
 rw[aM9 I];show some (s.length:Int)=_;rw[show j+uK (s.drop j)=s.length by omega]
def wG (c:UInt8):Bool:= !decide (c=62)
def z6 (t:pI):Int×pI:=if t.head? =some 47 then(6,t.drop 1) else if t.getLast? =some 47 then(7,t.dropLast) else(5,t)
def yA (s:pI):Int×pI×Nat:=
 if rZ wG s<s.length then
  (if uO (z6 ((s.take (rZ wG s)).drop 1)).2=true then((z6 ((s.take (rZ wG s)).drop 1)).1,(z6 ((s.take (rZ wG s)).drop 1)).2,rZ wG s+1) else(0,[],0))
 else(0,[],0)
def a3c: ∀(l:pI),Lib.indexByte l 62=PH (l.findIdx? λb=>decide (b=62))
 |[]=>rfl
 |b::t=>by
  rw[Lib.indexByte,aOp,a3c t,a2S,a2T];by_cases h:b=62
  .subst h;rfl
  rw[aM9 (by simpa using λe=>h (Eq.symm e)),aM9 aO4]
def aGB (l:pI):AF l 62=if rZ wG l<l.length then(rZ wG l:Int) else-1:=by
 have D:AF l 62=Lib.indexByte l 62:=sib l 62;have j:=fv wG l;have z:(λb=> !wG b)=λb=>decide (b=62):=by funext b;simp [wG]
 rw[z] at j;rw[D,a3c,j];split<;>rfl
def aGC (t:pI):G6 t [47]=some (if t.head? =some 47 then(t.drop 1,true) else(t,false)):=by
 unfold G6 S2 S1;have G:((([47]:pI).length:Nat):Int)=1:=rfl;rw[G];cases t with
 |nil=>rfl
 |cons a r=>
  have F:decide ((1:Int)<=((a::r).length:Int))=true:=by simp;omega
  have E:s8 (a::r) (0:Int) (1:Int)=[a]:=rfl;rw[aM4 (λ_=>⟨pM,pM,by simp;omega⟩),F,E];have D:s8 (a::r) (1:Int) ((a::r).length:Int)=r:=by
   rw[show (1:Int)=((1:Nat):Int) from rfl,FB];rfl
  by_cases j:a=47
  .subst j;simp only[aM3,decide_true,Bool.and_self,Bool.not_true,aNJ,aOh];rw[aM4 ⟨pM,by simp;omega,aN2 _⟩,D];rfl
  have z:decide ([a]=([47]:pI))=false:=by simpa using j
  rw[z];simp [j]
def aGD (t:pI) (z:fit t):T9 t [47]=some (if t.getLast? =some 47 then(t.dropLast,true) else(t,false)):=by
 unfold fit at z;unfold T9 WZ WK;have I:((([47]:pI).length:Nat):Int)=1:=rfl;rw[I];by_cases h0:t=[]
 .subst h0;rfl
 have K:0<t.length:=aOP.2 h0;have G:decide ((1:Int)<=(t.length:Int))=true:=by simp;omega
 have F:s8 t ((t.length:Int)-1) (t.length:Int)=[t.getLast h0]:=by
  rw[show (t.length:Int)-1=((t.length-1:Nat):Int) by omega,FB];rw[aNm pM,List.getLast_eq_getElem,List.drop_eq_nil_of_le pM]
 have E:s8 t (0:Int) ((t.length:Int)-1)=t.dropLast:=by
  rw[show (t.length:Int)-1=((t.length-1:Nat):Int) by omega,U0,List.dropLast_eq_take]
 rw[aM4 (λ_=>by unfold qG;omega),aM4 (λ_=>⟨pM,pM,aN2 _⟩),G,F,List.getLast?_eq_getLast h0];by_cases j:t.getLast h0=47
 .rw[j];simp only[aM3,decide_true,Bool.and_self,Bool.not_true,aNJ,aOh];rw[aM4 aPv,aM4 ⟨pM,pM,pM⟩,E];rfl
 have D:decide ([t.getLast h0]=([47]:pI))=false:=by simpa using j
 rw[D];simp [j]
def aGE (r:pI) (I:fit (60::r)):TA (60::r)=some ((yA (60::r)).1,(yA (60::r)).2.1,(((yA (60::r)).2.2:Nat):Int)):=by
 have D:=I;unfold fit at D;unfold TA yA;rw[aGB];by_cases j:rZ wG (60::r)<(60::r).length
 .rw[aM4 j,aM4 j];have z:1<=rZ wG (60::r):=by
   have:wG 60=true:=rfl;simp [rZ,this]
  generalize rZ wG (60::r)=e at j z;have M:s8 (60::r) (1:Int) (e:Int)=((60::r).take e).drop 1:=by
   unfold s8;rw[show (1:Int).toNat=1 from rfl,aNL,List.drop_take]
  rw[aM9 (by simp<;>omega),aM4 ⟨pM,pM,pM⟩,M]
  have E:fit (((60::r).take e).drop 1):=by
   unfold fit;rw[aNE,aNR];omega
  generalize ((60::r).take e).drop 1=t at E;rw[aGC,aGD t E];have F:fit (z6 t).2:=by
   unfold fit at E|-;unfold z6;split
   .simp;omega
   split<;>simp<;>omega
  have key:(rA (σ:=(Int×pI)) (if (if t.head? =some 47 then(t.drop 1,true) else(t,false)).2=true then some ((6:Int),(if t.head? =some 47 then(t.drop 1,true) else(t,false)).1) else(some (if t.getLast? =some 47 then(t.dropLast,true) else(t,false))).bind λO=>if O.2=true then some ((7:Int),O.1) else some ((5:Int),t)) fun(x:Int×pI)=>(AL x.2).bind λa8=>if (!a8)=true then some ((0:Int),([]:pI),(0:Int)) else if qG ((e:Int)+1) then some (x.1,x.2,(e:Int)+1) else none)=some (if uO (z6 t).2=true then((z6 t).1,(z6 t).2,((e+1:Nat):Int)) else(0,[],0)):=by
   have K:(if (if t.head? =some 47 then(t.drop 1,true) else(t,false)).2=true then some ((6:Int),(if t.head? =some 47 then(t.drop 1,true) else(t,false)).1) else(some (if t.getLast? =some 47 then(t.dropLast,true) else(t,false))).bind λO=>if O.2=true then some ((7:Int),O.1) else some ((5:Int),t))=some (z6 t):=by
    unfold z6;by_cases z:t.head? =some 47
    .simp only[z,aOc]
    by_cases G:t.getLast? =some 47
    .simp [z,G]
    simp [z,G]
   rw[K];unfold rA;rw[aM3,PL _ F,aM3];cases uO (z6 t).2 with
   |true=>rw[aM9 pO,aM4 (by unfold qG;simp only[aM5] at j D;omega),aM4 rfl];rfl
   |false=>rfl
  refine Eq.trans key ?_;cases uO (z6 t).2<;>rfl
 rw[aM9 j,aM9 j];rfl
def FD (s:pI):Int×pI×Nat:=
 let q:Int×Nat:=if (s.drop 1).head? =some 47 then(6,2) else(5,1)
 let m:=rZ sV (s.drop q.2)
 let k:Int×Nat:=if q.1=5/\(s.drop (q.2+m)).head? =some 47 then(7,q.2+m+1) else(q.1,q.2+m)
 if uO ((s.drop q.2).take m)=true/\(s.drop k.2).head? =some 62 then(k.1,(s.drop q.2).take m,k.2+1) else(0,[],0)
def ge {p:UInt8->Bool}{c:UInt8}(h:p c=false) (r:pI): ∀t:pI,rZ p (t++c::r)=rZ p t
 |[]=>by simp [rZ,h]
 |a::t=>by
  rw[List.cons_append];unfold rZ;rw[ge h r t]
def XQ {p:UInt8->Bool}: ∀{t:pI},t.all p=true->rZ p t=t.length
 |[],_=>rfl
 |a::t,h=>by
  simp only[List.all_cons,aNf] at h;unfold rZ;rw[aM4 h.1,XQ h.2];rfl
def a3d {p:UInt8->Bool}: ∀(t:pI),(t.take (rZ p t)).all p=true
 |[]=>rfl
 |a::t=>by
  unfold rZ;by_cases h:p a=true
  .rw[aM4 h,List.take_succ_cons,List.all_cons,h,a3d t];rfl
  rw[aM9 h];rfl
def a3e {p:UInt8->Bool}: ∀{t:pI}(h:rZ p t<t.length),p t[rZ p t]=false
 |[],h=>by simp at h
 |a::t,h=>by
  by_cases j:p a=true
  .have e:rZ p (a::t)=rZ p t+1:=by rw[rZ,aM4 j]
   have z:rZ p t<t.length:=by rw[e] at h;simpa using h
   have:=a3e z;simp only[e,List.getElem_cons_succ];exact this
  have e:rZ p (a::t)=0:=by rw[rZ,aM9 j]
  simp only[e,List.getElem_cons_zero];simpa using j
def gg {s:pI}(h:uO s=true):s.all sV=true:=by
 cases s with
 |nil=>rfl
 |cons b t=>unfold uO at h;simp only[aNf] at h;exact h.2
def a3f: ∀r:pI,(∃t r',r=t++62::r'/\t.all wG=true)\/r.all wG=true
 |[]=> .inr rfl
 |a::r=>by
  by_cases h:a=62
  .subst h;exact .inl ⟨[],r,rfl,rfl⟩
  have j:wG a=true:=by simp [wG,h]
  rcases a3f r with⟨t,r',rfl,z⟩ |hr
  .exact .inl ⟨a::t,r',rfl,by rw[List.all_cons,j,z];rfl⟩
  exact .inr (by rw[List.all_cons,j,hr];rfl)
def aGF {r:pI}(h:r.all wG=true):yA (60::r)=(0,[],0):=by
 unfold yA;have:rZ wG (60::r)=(60::r).length:=XQ (by rw[List.all_cons,h];rfl);rw[this,aM9 (aOB _)]
def aGG {t r':pI}(h:t.all wG=true):yA (60::(t++62::r'))=if uO (z6 t).2=true then((z6 t).1,(z6 t).2,t.length+2) else(0,[],0):=by
 unfold yA;have z:rZ wG (60::(t++62::r'))=t.length+1:=by
  have:=ge (p:=wG) (c:=62) rfl r' (60::t);rw[List.cons_append] at this;rw[this,XQ (by rw[List.all_cons,h];rfl)];rfl
 rw[z,aM4 pO];have j:((60::(t++62::r')).take (t.length+1)).drop 1=t:=by simp
 rw[j]
def a3g {r:pI}(h:r.all wG=true) (k:Nat):(r.drop k).head?≠some 62:=by
 intro j;have:(62:UInt8)∈r:=List.mem_of_mem_drop (List.mem_of_head? j);have:=aN4.1 h _ this;cases this
def xj {t r':pI}(h:t.all wG=true) {k:Nat}(hk:k<=t.length):((t++62::r').drop k).head? =some 62↔k=t.length:=by
 rw[List.drop_append_of_le_length hk];by_cases D:k=t.length
 .subst D;simp
 constructor
 .intro z;have j:t.drop k≠[]:=by
   intro e;have:=aNz List.length e;simp at this;omega
  have F:(t.drop k).head? =some 62:=by
   cases E:t.drop k with
   |nil=>exact absurd E j
   |cons a u=>rw[E] at z;exact z
  exact absurd F (a3g h k)
 intro e;exact absurd e D
def aGH (r:pI):FD (60::r)=yA (60::r):=by
 rcases a3f r with⟨t,r',rfl,O⟩ |hr
 .rw[aGG O];unfold FD;simp only[aOD,aNG];by_cases G:(t++62::r').head? =some 47
  ·
   obtain⟨t',rfl⟩: ∃t',t=47::t':=by
    cases t with
    |nil=>simp at G
    |cons a u=>simp at G;subst G;exact⟨u,rfl⟩
   have Z:t'.all wG=true:=by simp only[List.all_cons,aNf] at O;exact O.2
   simp only[List.cons_append,List.head?_cons,aOc,aOD,aNG,show¬((6:Int)=5/\_)↔True from by simp];have hm:rZ sV (t'++62::r')=rZ sV t':=ge rfl r' t';rw[hm];have E:=GG sV t';have hq:z6 (47::t')=(6,t'):=by simp [z6]
   rw[hq];have e1:(60::47::(t'++62::r')).drop (2+rZ sV t')=(t'++62::r').drop (rZ sV t'):=by
    rw[show 2+rZ sV t'=rZ sV t'+1+1 by omega];rfl
   simp only[show¬(6:Int)=5 by decide,false_and,aOh,e1,xj Z E,aOF E];by_cases K:rZ sV t'=t'.length
   .rw[K,List.take_length];simp only[and_true,aM5];split
    .congr 2;omega
    rfl
   rw[aM9 (λh=>K h.2),aM9];intro h;exact K (XQ (gg h))
  simp only[aM9 G,aOD,aNG];have hm:rZ sV (t++62::r')=rZ sV t:=ge rfl r' t;rw[hm];have E:=GG sV t;have X:t.head?≠some 47:=by
   intro e;cases t with
   |nil=>simp at e
   |cons a u=>exact G e
  have e1: ∀k,(60::(t++62::r')).drop (1+k)=(t++62::r').drop k:=λk=>by rw[Nat.add_comm];rfl
  simp only[true_and,e1,aOF E];unfold z6;rw[aM9 X];by_cases K:rZ sV t=t.length
  ·
   have V:t.all sV=true:=by have:=a3d (p:=sV) t;rw[K,List.take_length] at this;exact this
   have hl:t.getLast?≠some 47:=by
    intro e;have:=aN4.1 V 47 (List.mem_of_getLast? e);cases this
   have hd:((t++62::r').drop (rZ sV t)).head? =some 62:=(xj O E).2 K;have R:(if (List.drop (rZ sV t) (t++62::r')).head? =some 47 then((7:Int),1+rZ sV t+1) else(5,1+rZ sV t))=(5,1+rZ sV t):=aM9 (by rw[hd];simp);simp only[R];simp only[e1,hd,and_true];rw[K,List.take_length,aM9 hl];simp only;split
   .congr 2;omega
   rfl
  have F:rZ sV t<t.length:=by omega
  have hst:=a3e F;have ha:t.drop (rZ sV t)=t[rZ sV t]::t.drop (rZ sV t+1):=aNm F;have U:uO t=false:=by
   cases Q:uO t with
   |false=>rfl
   |true=>exact absurd (XQ (gg Q)) K
  have M:((t++62::r').drop (rZ sV t)).head? =some t[rZ sV t]:=by
   rw[List.drop_append_of_le_length E,ha];rfl
  by_cases Y:t[rZ sV t]=47
  .have R:(if (List.drop (rZ sV t) (t++62::r')).head? =some 47 then((7:Int),1+rZ sV t+1) else(5,1+rZ sV t))=(7,1+(rZ sV t+1)):=aM4 (by rw[M,Y]);simp only[R];simp only[e1,xj O (show rZ sV t+1<=t.length by omega)];by_cases D:rZ sV t+1=t.length
   .have z:t.getLast? =some 47:=by
     rw[List.getLast?_eq_getElem?,<-D,Nat.add_sub_cancel,aNe F,Y]
    have hc:t.dropLast=t.take (rZ sV t):=by rw[List.dropLast_eq_take,<-D,Nat.add_sub_cancel]
    rw[aM4 z,hc];simp only[D,and_true];split
    .congr 2;omega
    rfl
   rw[aM9 (λh=>D h.2)];by_cases z:t.getLast? =some 47
   .rw[aM4 z,aM9];intro Q;have I:t[rZ sV t]∈t.dropLast:=by
     rw[List.dropLast_eq_take];exact aOM.2 ⟨rZ sV t,pM,rfl⟩
    have:=aN4.1 (gg Q) _ I;rw[hst] at this;cases this
   rw[aM9 z,aM9 (by rw[U];simp)]
  have R:(if (List.drop (rZ sV t) (t++62::r')).head? =some 47 then((7:Int),1+rZ sV t+1) else(5,1+rZ sV t))=(5,1+rZ sV t):=aM9 (by rw[M];simpa using Y);simp only[R];simp only[e1,M];have hg:t[rZ sV t]≠62:=by
   intro e;have:=aN4.1 O _ (aNc F);rw[e] at this;cases this
  rw[aM9 (λh=>hg (aNa h.2))];by_cases z:t.getLast? =some 47
  .rw[aM4 z,aM9];intro Q;have hh:rZ sV t≠t.length-1:=by
    intro e;rw[List.getLast?_eq_getElem?] at z;have h2:t[t.length-1]? =some t[rZ sV t]:=by
     rw[<-aNe F];congr 1;exact e.symm
    rw[h2] at z;exact Y (aNa z)
   have I:t[rZ sV t]∈t.dropLast:=by
    rw[List.dropLast_eq_take];exact aOM.2 ⟨rZ sV t,pM,rfl⟩
   have:=aN4.1 (gg Q) _ I;rw[hst] at this;cases this
  rw[aM9 z,aM9 (by rw[U];simp)]
 rw[aGF hr];unfold FD;rw[aM9];rintro⟨-,h⟩;have: ∀k,0<k->((60::r).drop k).head?≠some 62:=λk hk=>by
  obtain⟨j,rfl⟩: ∃j,k=j+1:=⟨k-1,pM⟩;exact a3g hr j
 refine this _ ?_ h
 repeat' split
 all_goals first|omega|(simp only;omega)
def U8 {s:pI}{i:Nat}(h:i<s.length) (c:UInt8):(s.drop i).head? =some c↔s[i]=c:=by
 rw[aNm h,List.head?_cons,aM6]
def XR {s:pI}{i:Nat}(h: ¬i<s.length) (c:UInt8):(s.drop i).head?≠some c:=by
 rw[List.drop_eq_nil_of_le pM];simp
def z7 {s:pI}{i:Nat}(h:i<s.length) (n:Nat) (j:n<256):decide (qZ s i=(n:Int))=decide (s[i]=UInt8.ofNat n):=by
 rw[wF h,aNv];simp only[aNj];constructor
 .intro e;have:s[i].toNat=n:=by omega
  rw[<-this];simp
 intro e;rw[e];simp [Nat.mod_eq_of_lt j]
def aGI (s:pI) (V:fit s) (j:Nat) (X:j<s.length):T8 s j=some (if s[j]=60/\(FD (s.drop j)).1≠0 then((FD (s.drop j)).1,(FD (s.drop j)).2.1,(j:Int),((j+(FD (s.drop j)).2.2:Nat):Int)) else(0,[],0,0)):=by
 have Q:=V;unfold fit at Q;unfold T8;rw[aM4 (s7 pM),aM4 (λh=>⟨pM,by simpa using h⟩)];obtain⟨q,O⟩: ∃q:Int×Nat,(if ((s.drop j).drop 1).head? =some 47 then(6,2) else(5,1))=q:=⟨_,rfl⟩;have I:j+q.2<=s.length:=by
  rw[<-O];split
  .rename_i h;rw[aOa] at h;by_cases z:j+1<s.length
   .dsimp only;omega
   exact absurd h (XR z 47)
  dsimp only;omega
 have Y:q.1=5\/q.1=6:=by rw[<-O];split<;>simp
 have e1:(if ((((j:Int)+(1:Int))<(s.length:Int))&&((qZ s ((j:Int)+(1:Int)))=(47:Int)))=true then(if qG (((j:Int)+(1:Int))+(1:Int)) then some (((6:Int),(((j:Int)+(1:Int))+(1:Int)))) else none) else some (((5:Int),((j:Int)+(1:Int)))))=some (q.1,((j+q.2:Nat):Int)):=by
  rw[<-O,aOa];by_cases z:j+1<s.length
  .have hb:=z7 z 47 pN;rw[Int.natCast_add,Int.natCast_one] at hb;rw[show ((47:Nat):Int)=47 from rfl] at hb;rw[hb,show decide (((j:Int)+1)<(s.length:Int))=true by simp;omega,Bool.true_and];by_cases D:s[j+1]=47
   .rw[aM4 (by rw[D];rfl),aM4 aPv,aM4 ((U8 z 47).2 D)];congr 2
   rw[aM9 aPm,aM9 (λh=>D ((U8 z 47).1 h))];rfl
  rw[show decide (((j:Int)+1)<(s.length:Int))=false by simp;omega,aOs,aM9 pO,aM9 (XR z 47)];rfl
 rw[e1];unfold rA;rw[aM3];simp only;rw[aGz s V (j+q.2) I,aM3];obtain⟨m,hm⟩: ∃m,rZ sV (s.drop (j+q.2))=m:=⟨_,rfl⟩;have Z:j+q.2+m<=s.length:=by
  have:=GG sV (s.drop (j+q.2));rw[hm,aNE] at this;omega
 rw[hm];have K:min (((j+q.2:Nat):Int)) (s.length:Int)=((j+q.2:Nat):Int):=by omega
 rw[K,aM4 ⟨pM,pM,pM⟩,aM4 (λh=>⟨pM,by
  simp only[aOQ,aNf,aNj] at h;exact h.2⟩)]
 have M:s8 s ((j+q.2:Nat):Int) ((j+q.2+m:Nat):Int)=((s.drop j).drop q.2).take m:=by
  unfold s8;rw[aNL,aNL,aOa,aNM]
 rw[M];obtain⟨k,hk⟩: ∃k:Int×Nat,(if q.1=5/\((s.drop j).drop (q.2+m)).head? =some 47 then(7,q.2+m+1) else(q.1,q.2+m))=k:=⟨_,rfl⟩;have ha:j+k.2<=s.length:=by
  rw[<-hk];split
  .rename_i h;have h:=h.2;rw[aOa] at h;by_cases z:j+(q.2+m)<s.length
   .dsimp only;omega
   exact absurd h (XR z 47)
  dsimp only;omega
 have R:k.1≠0:=by rw[<-hk];split<;>simp<;>omega
 have e2:(if (((q.1=(5:Int))&&(((j+q.2+m:Nat):Int)<(s.length:Int)))&&((qZ s ((j+q.2+m:Nat):Int))=(47:Int)))=true then(if qG (((j+q.2+m:Nat):Int)+(1:Int)) then some (((7:Int),(((j+q.2+m:Nat):Int)+(1:Int)))) else none) else some ((q.1,((j+q.2+m:Nat):Int))))=some (k.1,((j+k.2:Nat):Int)):=by
  rw[<-hk,aOa,<-aNN];by_cases z:j+q.2+m<s.length
  .have hb:=z7 z 47 pN;rw[show ((47:Nat):Int)=47 from rfl] at hb;rw[hb,show decide (((j+q.2+m:Nat):Int)<(s.length:Int))=true by simp;omega,Bool.and_true];by_cases D:q.1=5/\s[j+q.2+m]=47
   .rw[aM4 (by rw[D.1,D.2];rfl),aM4 aPv,aM4 ⟨D.1,(U8 z 47).2 D.2⟩];congr 2;dsimp only;omega
   rw[aM9 aPm,aM9 (λh=>D ⟨h.1,(U8 z 47).1 h.2⟩)];congr 2;dsimp only;omega
  rw[show decide (((j+q.2+m:Nat):Int)<(s.length:Int))=false by simp;omega,Bool.and_false,aOs,aM9 pO,aM9 (λh=>XR z 47 h.2)];congr 2;dsimp only;omega
 rw[e2,aM3];simp only;have hM:FD (s.drop j)=if uO (((s.drop j).drop q.2).take m)=true/\((s.drop j).drop k.2).head? =some 62 then(k.1,((s.drop j).drop q.2).take m,k.2+1) else(0,[],0):=by
  unfold FD;simp only[O];rw[show rZ sV ((s.drop j).drop q.2)=m by rw[aOa];exact hm];simp only[hk]
 rw[hM,aM4 (rO X)];obtain⟨nm,G⟩: ∃nm,((s.drop j).drop q.2).take m=nm:=⟨_,rfl⟩;rw[G];have U:fit nm:=by
  unfold fit;rw[<-G,aNR,aNE,aNE];omega
 have hb:=z7 X 60 pN;rw[show ((60:Nat):Int)=60 from rfl,show UInt8.ofNat 60=60 from rfl] at hb;rw[hb,KV nm U,uB,aM4 (show _->(some (uO nm)).isSome=true from λ_=>rfl)];by_cases E:s[j]=60
 .rw[E,show decide ((60:UInt8)=60)=true from rfl];simp only[Bool.not_true,Bool.false_or,true_and];cases hn:uO nm with
  |false=>
   rw[aM4 (λh=>by simp at h),aM4 pO,aM9 pO]
  |true=>
   simp only[Bool.not_true,Bool.false_or,true_and];rw[aOa];by_cases z:j+k.2<s.length
   .have hb:=z7 z 62 pN;rw[show ((62:Nat):Int)=62 from rfl,show UInt8.ofNat 62=62 from rfl] at hb;rw[aM4 (λ_=>rO z),hb,show decide ((s.length:Int)<=((j+k.2:Nat):Int))=false by simp;omega,Bool.false_or];by_cases D:s[j+k.2]=62
    .rw[D,aM9 pO,aM4 aPv];have F:(s.drop (j+k.2)).head? =some 62:=(U8 z 62).2 D;simp only[F,aOc];rw[aM4 R];congr 4
    rw[aM4 aPm];have F:(s.drop (j+k.2)).head?≠some 62:=λh=>D ((U8 z 62).1 h);simp only[F,aOh];rw[aM9 pO]
   rw[show decide ((s.length:Int)<=((j+k.2:Nat):Int))=true by simp;omega];have F:(s.drop (j+k.2)).head?≠some 62:=XR z 62;rw[aM4 (λh=>by simp at h),aM4 pO];simp only[F,aOh];rw[aM9 pO]
 rw[show decide (s[j]=60)=false by simpa using E];simp only[Bool.not_false,Bool.true_or,aOc];rw[aM4 (λh=>by simp at h),aM9 (λh=>E h.1)]
def t8 (brace:Bool):pI->Int×pI×Nat
 |[]=>(0,[],0)
 |c::r=>
  if c=123 then(2,[123],1) else if c=125 then(3,[125],1)
  else if brace=true then(if c=44 then(8,[44],1) else if rZ xK (c::r)=0 then(0,[],0) else(9,(c::r).take (rZ xK (c::r)),rZ xK (c::r)))
  else if c=35 then(4,[35],1) else if c=60 then yA (60::r) else if uK (c::r)=0 then(0,[],0) else(1,(c::r).take (uK (c::r)),uK (c::r))
def a3h (s:pI):(yA s).2.2<=s.length/\((yA s).1≠0->0<(yA s).2.2/\5<=(yA s).1/\(yA s).1<=7)/\0<=(yA s).1:=by
 unfold yA z6
 repeat' split
 all_goals (simp only;refine⟨?_,?_,?_⟩)
 all_goals first|omega|(intro _;omega) |(intro h;exact absurd rfl h)
def xk (b:Bool) (s:pI):(t8 b s).2.2<=s.length/\((t8 b s).1≠0->0<(t8 b s).2.2):=by
 cases s with
 |nil=>exact⟨aNt _,λh=>absurd rfl h⟩
 |cons c r=>
  have D:=GG xK (c::r);have z:=KW (c::r);have j:=a3h (60::r);unfold t8;simp only[aM5] at D z j|-
  repeat' split
  all_goals first
   |exact⟨j.1,λh=>(j.2.1 h).1⟩
   |exact⟨by simp only;omega,λh=>by simp only;omega⟩
   |exact⟨by simp only;omega,λh=>absurd rfl h⟩
def U9 (brace:Bool) (c:UInt8) (r:pI):t8 brace (c::r)=if c=123 then(2,[123],1) else if c=125 then(3,[125],1)
  else if brace=true then(if c=44 then(8,[44],1) else if rZ xK (c::r)=0 then(0,[],0) else(9,(c::r).take (rZ xK (c::r)),rZ xK (c::r)))
  else if c=35 then(4,[35],1) else if c=60 then yA (60::r) else if uK (c::r)=0 then(0,[],0) else(1,(c::r).take (uK (c::r)),uK (c::r)):=rfl
def PN {c:UInt8}{r:pI}(n:Nat) (j:n<256):decide (qZ (c::r) (0:Int)=(n:Int))=decide (c=UInt8.ofNat n):=z7 (s:=c::r) (i:=0) pO n j
def aGJ (s:pI) (D:fit s) (b:Bool) (h0:s≠[]):TH s b=some ((t8 b s).1,(t8 b s).2.1,(((t8 b s).2.2:Nat):Int)):=by
 cases s with
 |nil=>exact absurd rfl h0
 |cons c r=>
  have E:s8 (c::r) (0:Int) (1:Int)=[c]:=rfl;have z:(0:Int)<=0/\(0:Int)<=1/\(1:Int)<=((c::r).length:Int):=⟨pM,pM,by simp<;>omega⟩
  have b123:=PN (c:=c) (r:=r) 123 pN;have b125:=PN (c:=c) (r:=r) 125 pN;have b44:=PN (c:=c) (r:=r) 44 pN;have b35:=PN (c:=c) (r:=r) 35 pN;have b60:=PN (c:=c) (r:=r) 60 pN;rw[show ((123:Nat):Int)=123 from rfl,show UInt8.ofNat 123=123 from rfl] at b123;rw[show ((125:Nat):Int)=125 from rfl,show UInt8.ofNat 125=125 from rfl] at b125;rw[show ((44:Nat):Int)=44 from rfl,show UInt8.ofNat 44=44 from rfl] at b44;rw[show ((35:Nat):Int)=35 from rfl,show UInt8.ofNat 35=35 from rfl] at b35;rw[show ((60:Nat):Int)=60 from rfl,show UInt8.ofNat 60=60 from rfl] at b60;rw[U9];unfold TH;rw[aM4 ⟨pM,by simp<;>omega⟩,b123,b125,b44,b35,b60,E]
  by_cases e1:c=123
  .subst e1;rw[aM4 (show decide ((123:UInt8)=123)=true from rfl),aM4 z];rfl
  rw[aM9 (show¬decide (c=123)=true by simpa using e1),aM9 e1];by_cases e2:c=125
  .subst e2;rw[aM4 (show decide ((125:UInt8)=125)=true from rfl),aM4 z];rfl
  rw[aM9 (show¬decide (c=125)=true by simpa using e2),aM9 e2];cases b with
  |true=>
   simp only[Bool.true_and,aOc];by_cases e3:c=44
   .subst e3;rw[aM4 (show decide ((44:UInt8)=44)=true from rfl),aM4 z];rfl
   rw[aM9 (show¬decide (c=44)=true by simpa using e3),aM9 e3,aGx _ D];have j:=GG xK (c::r);generalize rZ xK (c::r)=n at j;by_cases e4:n=0
   .subst e4;rfl
   .rw[aM9 e4];show (if decide ((n:Int)=0)=true then _ else _:Option (Int×pI×Int))=_;rw[aM9 (by simpa using e4),aM4 ⟨pM,pM,pM⟩,U0]
  |false=>
   simp only[aOs,aNJ,aOh];by_cases e3:c=35
   .subst e3;rw[aM4 (show decide ((35:UInt8)=35)=true from rfl),aM4 z];rfl
   rw[aM9 (show¬decide (c=35)=true by simpa using e3),aM9 e3];by_cases e4:c=60
   .subst e4;rw[aM4 (show decide ((60:UInt8)=60)=true from rfl),aM4 rfl,aGE r D];rfl
   rw[aM9 (show¬decide (c=60)=true by simpa using e4),aM9 e4,a3b _ D];have j:=KW (c::r);generalize uK (c::r)=n at j;by_cases e4:n=0
   .subst e4;rfl
   rw[aM9 e4];show (if decide ((n:Int)=0)=true then _ else _:Option (Int×pI×Int))=_;rw[aM9 (by simpa using e4),aM4 ⟨pM,pM,pM⟩,U0]
def aGK (s:pI) (K:fit s) (j:Nat) (D:j<s.length):OV s j=some (if (t8 true (s.drop j)).1=0 then(0,[],0,0) else((t8 true (s.drop j)).1,(t8 true (s.drop j)).2.1,(j:Int),((j+(t8 true (s.drop j)).2.2:Nat):Int))):=by
 have I:=K;unfold fit at I;unfold OV;rw[aGy s K j pM];unfold rA;rw[aM3];have z:=GG xK (s.drop j);rw[aNE] at z;have b123:=z7 D 123 pN;have b125:=z7 D 125 pN;have b44:=z7 D 44 pN;rw[show ((123:Nat):Int)=123 from rfl,show UInt8.ofNat 123=123 from rfl] at b123;rw[show ((125:Nat):Int)=125 from rfl,show UInt8.ofNat 125=125 from rfl] at b125;rw[show ((44:Nat):Int)=44 from rfl,show UInt8.ofNat 44=44 from rfl] at b44;have M:s.drop j=s[j]::s.drop (j+1):=aNm D;have E:s8 s (j:Int) ((j+rZ xK (s.drop j):Nat):Int)=(s.drop j).take (rZ xK (s.drop j)):=by
  unfold s8;rw[aNL,aNL,aNM]
 rw[E,b123,b125,b44];rw[M] at z|-;generalize s[j]=c at z|-;generalize s.drop (j+1)=r at z|-;by_cases F:rZ xK (c::r)=0
 .have hi:qG ((j:Int)+1):=s7 pM;rw[F,aM9 pO,aM4 (rO D),U9,F];by_cases e1:c=123
  .subst e1;rw[aM4 pO,aM4 hi];rfl
  rw[aM9 (by simpa using e1),aM4 (rO D),aM9 e1];by_cases e2:c=125
  .subst e2;rw[aM4 pO,aM4 hi];rfl
  rw[aM9 (by simpa using e2),aM4 (rO D),aM9 e2,aM4 rfl];by_cases e3:c=44
  .subst e3;rw[aM4 pO,aM4 hi];rfl
  rw[aM9 (by simpa using e3),aM9 e3];rfl
 have G:xK c=true:=by
  cases h:xK c with
  |true=>rfl
  |false=>exact absurd (by simp [rZ,h]) F
 have e1:c≠123:=by rintro rfl;cases G
 have e2:c≠125:=by rintro rfl;cases G
 have e3:c≠44:=by rintro rfl;cases G
 rw[aM4 pP,aM4 ⟨pM,pM,pM⟩,U9,aM9 e1,aM9 e2,aM4 rfl,aM9 e3,aM9 F];rfl
def aGL (s:pI) (G:fit s) (j:Nat) (z:j<s.length) (d:Nat):OW s j d=some (if (t8 false (s.drop j)).1=0\/((t8 false (s.drop j)).1=3/\d=0) then(0,[],0,0) else((t8 false (s.drop j)).1,(t8 false (s.drop j)).2.1,(j:Int),((j+(t8 false (s.drop j)).2.2:Nat):Int))):=by
 have K:=G;unfold fit at K;unfold OW;rw[aGA s G j pM,aM3,aGI s G j z,aM3];have D:=KW (s.drop j);rw[aNE] at D;have b123:=z7 z 123 pN;have b125:=z7 z 125 pN;have b35:=z7 z 35 pN;rw[show ((123:Nat):Int)=123 from rfl,show UInt8.ofNat 123=123 from rfl] at b123;rw[show ((125:Nat):Int)=125 from rfl,show UInt8.ofNat 125=125 from rfl] at b125;rw[show ((35:Nat):Int)=35 from rfl,show UInt8.ofNat 35=35 from rfl] at b35;have Q:s.drop j=s[j]::s.drop (j+1):=aNm z;have E:s8 s (j:Int) ((j+uK (s.drop j):Nat):Int)=(s.drop j).take (uK (s.drop j)):=by
  unfold s8;rw[aNL,aNL,aNM]
 rw[E,b123,b125,b35];rw[Q] at D|-;generalize s[j]=c at D|-;generalize s.drop (j+1)=r at D|-;by_cases F:uK (c::r)=0
 .have hi:qG ((j:Int)+1):=s7 pM;rw[F,aM9 pO,aM4 (rO z),U9,F];by_cases e1:c=123
  .subst e1;rw[aM4 pO,aM4 hi];rfl
  rw[aM9 (by simpa using e1),aM4 (rO z),aM9 e1];by_cases e2:c=125
  .subst e2;by_cases O:d=0
   .subst O;rw[aM9 (show¬(decide ((125:UInt8)=125)&&decide ((0:Int)<((0:Nat):Int)))=true by simp),aM4 (rO z),aM9 (show¬decide ((125:UInt8)=35)=true by decide),aM4 (show (125:UInt8)=125 from rfl)];rw[aM9 (show¬((125:UInt8)=60/\(FD (125::r)).1≠0) from λh=>by cases h.1)];rw[aM4 (show (3:Int)=0\/(3:Int)=3/\0=0 from .inr ⟨rfl,rfl⟩)]
   rw[aM4 (show (decide ((125:UInt8)=125)&&decide ((0:Int)<(d:Int)))=true by simp;omega),aM4 hi,aM4 (show (125:UInt8)=125 from rfl),aM9 (show¬((3:Int)=0\/(3:Int)=3/\d=0) from λh=>h.elim (λh=>by cases h) λh=>O h.2)];rfl
  rw[aM9 (show¬(decide (c=125)&&decide ((0:Int)<(d:Int)))=true by simp [e2]),aM4 (rO z),aM9 e2];simp only[aNJ,aOh];by_cases e3:c=35
  .subst e3;rw[aM4 (show decide ((35:UInt8)=35)=true from rfl),aM4 hi];rfl
  rw[aM9 (show¬decide (c=35)=true by simpa using e3),aM9 e3];by_cases e4:c=60
  .subst e4;rw[aGH,aM4 (show (60:UInt8)=60 from rfl)];have hE:=a3h (60::r);generalize yA (60::r)=M at hE|-;by_cases hm:M.1=0
   .rw[aM9 (show¬((60:UInt8)=60/\M.1≠0) from λh=>h.2 hm),aM4 (show M.1=0\/M.1=3/\d=0 from .inl hm)]
   have:=(hE.2.1 hm).2;rw[aM4 (show (60:UInt8)=60/\M.1≠0 from⟨rfl,hm⟩),aM9 (show¬(M.1=0\/M.1=3/\d=0) from λh=>h.elim hm λh=>by omega)]
  rw[aM9 e4,aM9 (show¬(c=60/\(FD (c::r)).1≠0) from λh=>e4 h.1)];simp only[aOc,true_or]
 have I:c≠123/\c≠125/\c≠35/\c≠60:=by
  have: ∀x:UInt8,x≠92->uE x=true->uK (x::r)=0:=λx U R=>by rw[a3a,aM4 R,aM9 (λh=>U h.1)]
  refine⟨?_,?_,?_,?_⟩<;>(rintro rfl;exact F (this _ pN pN))
 obtain⟨e1,e2,e3,e4⟩:=I;rw[aM4 pP,aM4 ⟨pM,pM,pM⟩,U9,aM9 e1,aM9 e2,aM9 (show¬(false=true) by simp),aM9 e3,aM9 e4,aM9 F,aM9 (show¬((1:Int)=0\/(1:Int)=3/\d=0) from λh=>h.elim (λh=>by cases h) λh=>by cases h.1)]
def tB:Nat->Bool
 |0=>false
 |n+1=> !tB n
def gh (c:UInt8):Bool:=decide (c=32)||decide (c=9)||decide (c=10)
def BG (k:Int) (d:Nat):Nat:=if k=2 then d+1 else if k=3 then d-1 else d
abbrev rQ:Type:=Int×pI×Int×Int×Unit
def wV:Nat->pI->Nat->Nat->Option (List rQ)
 |0,_,_,_=>none
 |_+1,[],_,d=>if d=0 then some [] else none
 |n+1,c::r,j,d=>
  if tB d=true/\gh c=true then wV n r (j+1) d
  else if (t8 (tB d) (c::r)).1=0\/((t8 (tB d) (c::r)).1=3/\d=0) then none
  else(wV n ((c::r).drop (t8 (tB d) (c::r)).2.2) (j+(t8 (tB d) (c::r)).2.2) (BG (t8 (tB d) (c::r)).1 d)).map λl=>
   ((t8 (tB d) (c::r)).1,(t8 (tB d) (c::r)).2.1,(j:Int),((j+(t8 (tB d) (c::r)).2.2:Nat):Int),())::l
def zG:Nat->List Bool
 |0=>[]
 |d+1=>zG d++[tB d]
def KX: ∀d,(zG d).length=d
 |0=>rfl
 |d+1=>by rw[zG,aM7,KX d];rfl
def XS (o:List rQ):Option (List rQ)->(List rQ×List Bool×Nat)⊕(List rQ×Int×Int)->Prop
 |some l,w=>w= .inl (o++l,[],0)
 |none,w=>(∃a,w= .inr ([],a,3))\/∃o' m k,w= .inl (o',m,k)/\0<k
def XS.cons {o:List rQ}{t:rQ}{x:Option (List rQ)}{w}(h:XS (o++[t]) x w):XS o (x.map (t:: ·)) w:=by
 cases x with
 |none=>exact h
 |some l=>show w=_;rw[show w=_ from h,aNd];rfl
def a3i {s:pI}{j:Nat}(z:j<s.length):((((qZ s (j:Int))=(32:Int))||((qZ s (j:Int))=(9:Int)))||((qZ s (j:Int))=(10:Int)))=gh s[j]:=by
 have F:=z7 z 32 pN;have E:=z7 z 9 pN;have D:=z7 z 10 pN;rw[show ((32:Nat):Int)=32 from rfl] at F;rw[show ((9:Nat):Int)=9 from rfl] at E;rw[show ((10:Nat):Int)=10 from rfl] at D;rw[F,E,D];rfl
def xl (s:pI) (Z:s.length<=4000): ∀(n j d:Nat) (o:List rQ),s.length<=j+n->j<=s.length->d<=j->o.length<=j->
  ∃w,rC (KA s) (o,(j:Int),tB d,zG d,d)=some w/\XS o (wV (n+1) (s.drop j) j d) w
 |n,j,d,o,hn,hj,hd,ho=>by
  by_cases D:j<s.length
  .cases n with
   |zero=>omega
   |succ n=>
    have hD:s.drop j=s[j]::s.drop (j+1):=aNm D;have Q:s8 s (j:Int) (s.length:Int)=s.drop j:=FB;have M:fit (s.drop j):=by unfold fit;rw[aNE];omega
    have V:s.drop j≠[]:=λh=>by have:=aNz List.length h;simp at this;omega
    have U:=aGJ (s.drop j) M (tB d) V;have R:=xk (tB d) (s.drop j);rw[aNE] at R;rw[tA];unfold KA;simp only;rw[aM4 (sI D),aM4 (λ_=>rO D),aM4 (λ_=>rO D),aM4 (λ_=>rO D),a3i D,Q,U];by_cases hb:tB d=true/\gh s[j]=true
    .rw[aM4 (by rw[hb.1,hb.2];rfl),aM4 (s7 pM),hD,wV,aM4 hb];have:=xl s Z n (j+1) d o pM pM pM pM;rw[Int.natCast_add,Int.natCast_one] at this;exact this
    rw[aM9 aPe,aM4 ⟨pM,pM,aN2 _⟩,aM3];have I:wV (n+1+1) (s.drop j) j d=if (t8 (tB d) (s.drop j)).1=0\/((t8 (tB d) (s.drop j)).1=3/\d=0) then none
      else(wV (n+1) ((s.drop j).drop (t8 (tB d) (s.drop j)).2.2) (j+(t8 (tB d) (s.drop j)).2.2) (BG (t8 (tB d) (s.drop j)).1 d)).map λl=>
       ((t8 (tB d) (s.drop j)).1,(t8 (tB d) (s.drop j)).2.1,(j:Int),((j+(t8 (tB d) (s.drop j)).2.2:Nat):Int),())::l:=by
     rw[hD,wV,aM9 hb]
    rw[I];obtain⟨K,Y⟩: ∃K,t8 (tB d) (s.drop j)=K:=⟨_,rfl⟩;rw[Y] at R|-;obtain⟨k,t,z⟩:=K;simp only at R|-;have hx:(rA (σ:=Bool) (if (decide (k=(0:Int)))=true then some (decide (k=(0:Int))) else some ((k=(3:Int))&&(((d:Nat):Int)=(0:Int)))) λO=>if O=true then some (.inr (.inr (.inr ((([]:List rQ),(j:Int),(3:Int)))))) else
      if (decide (k=(2:Int)))=true then(if (d+([tB d]:List Bool).length)*1<=140737488355328 then some (.inl ((!tB d),(zG d++([tB d]:List Bool)),((zG d++([tB d]:List Bool)).length))) else none)
      else if (decide (k=(3:Int)))=true then(if qG (((d:Nat):Int)- (1:Int)) then(if 0<=(((d:Nat):Int)- (1:Int))/\(((d:Nat):Int)- (1:Int))<((d:Nat):Int) then(if qG (((d:Nat):Int)- (1:Int)) then(if 0<=(((d:Nat):Int)- (1:Int))/\(((d:Nat):Int)- (1:Int))<=((d:Nat):Int) then some (.inl ((qH .bool (zG d) (((d:Nat):Int)- (1:Int))),(List.take (Int.toNat (((d:Nat):Int)- (1:Int))) (zG d)),(Int.toNat (((d:Nat):Int)- (1:Int))))) else none) else none) else none) else none)
      else some (.inl (tB d,zG d,d)):Option ((Bool×List Bool×Nat)⊕((List rQ×Int×Bool×List Bool×Nat)⊕((List rQ×List Bool×Nat)⊕(List rQ×Int×Int)))))=
      some (if k=0\/(k=3/\d=0) then .inr (.inr (.inr ([],(j:Int),3))) else .inl (tB (BG k d),zG (BG k d),BG k d)):=by
     unfold rA BG;by_cases k0:k=0
     .subst k0;rfl
     rw[aM9 (by simpa using k0),aM3];by_cases k3:k=3
     .subst k3;cases d with
      |zero=>rfl
      |succ d=>
       rw[aM9 pP,aM9 pO,aM4 pO,aM4 aPv,aM4 ⟨pM,pM⟩,aM4 aPv,aM4 ⟨pM,pM⟩];have e1:(((d+1:Nat):Int)-1)=(d:Int):=by omega
       rw[e1,aNL,v7 aPB];have e2:(zG (d+1))[d]'aPB=tB d:=by
        simp only[zG];rw[List.getElem_append_right aPB];simp [KX]
       have e3:(zG (d+1)).take d=zG d:=by
        rw[zG,aOF aPB,List.take_of_length_le aPB]
       rw[e2,e3];simp
     rw[aM9 (by simp [k3])];by_cases k2:k=2
     .subst k2;rw[aM4 pO,aM4 pP];have e1:(zG d++[tB d]).length=d+1:=by rw[aM7,KX];rfl
      rw[e1,aM9 pO];simp [zG,tB]
     rw[aM9 (by simpa using k2),aM9 (by simpa using k3),aM9 (by simp [k0,k3])];simp [k2,k3]
    have F:=aNz (λq=>sK q fun(x:Bool×List Bool×Nat)=>if qG ((j:Int)+((z:Nat):Int)) then(if (o.length+([(k,(t,((j:Int),(((j:Int)+((z:Nat):Int)),()))))]:List rQ).length)*40<=140737488355328 then(if qG ((j:Int)+((z:Nat):Int)) then some (.inl ((o++([(k,(t,((j:Int),(((j:Int)+((z:Nat):Int)),()))))]:List rQ)),((j:Int)+((z:Nat):Int)),x.1,x.2.1,x.2.2)) else none) else none) else(none:Option ((List rQ×Int×Bool×List Bool×Nat)⊕((List rQ×List Bool×Nat)⊕(List rQ×Int×Int))))) hx;by_cases E:k=0\/(k=3/\d=0)
    .rw[aM4 E] at F|-;refine⟨.inr ([],(j:Int),3),?_,.inl ⟨_,rfl⟩⟩;refine Eq.trans (aNz (λq=>Option.bind q _) F) ?_;rfl
    rw[aM9 E] at F|-;have hz:=R.2 (λh=>E (.inl h));have X:BG k d<=j+z:=by unfold BG;split;omega;split<;>omega
    obtain⟨w,w1,w2⟩:=xl s Z n (j+z) (BG k d) (o++[(k,t,(j:Int),((j+z:Nat):Int),())]) pM pM X aPC;refine⟨w,?_,?_⟩
    .refine Eq.trans (aNz (λq=>Option.bind q _) F) ?_;unfold sK;rw[aM3];simp only;rw[aM4 aPv,aM4 aPD,aM4 aPv,aM3];simp only;rw[Int.natCast_add] at w1;exact w1
    rw[aOa];exact XS.cons w2
  have:j=s.length:=by omega
  subst this;refine⟨.inl (o,zG d,d),?_,?_⟩
  .rw[tA];unfold KA;simp only;rw[aM9 (sO _)];rfl
  rw[aNH,wV];by_cases G:d=0
  .subst G;rw[aM4 rfl];show _=_;rw[List.append_nil];rfl
  rw[aM9 G];exact .inr ⟨_,_,_,rfl,pM⟩
def aGM (s:pI) (z:s.length<=4000): ∃l a e,P3 s=some (l,a,e)/\(∀t,wV (s.length+1) s 0 0=some t->l=t/\a=0/\e=0)/\(wV (s.length+1) s 0 0=none->e=3):=by
 unfold P3;rw[aM9 pP];obtain⟨w,w1,w2⟩:=xl s z s.length 0 0 [] pM pM pM pO;rw[aNG] at w2;rw[show rC (KA s) (([]:List rQ),(0:Int),false,([]:List Bool),0)=some w from w1];cases j:wV (s.length+1) s 0 0 with
 |some l=>
  rw[j] at w2;rw[show w=_ from w2];exact⟨l,0,0,by simp [sK],λt h=>(by cases h;exact⟨rfl,rfl,rfl⟩),λh=>aPo⟩
 |none=>
  rw[j] at w2;rcases w2 with⟨a,rfl⟩ |⟨o',m,k,rfl,hk⟩
  .exact⟨[],a,3,rfl,λt h=>aPo,λ_=>rfl⟩
  refine⟨[],(s.length:Int),3,?_,λt h=>aPo,λ_=>rfl⟩;show (if decide ((0:Int)<((k:Nat):Int))=true then _ else _:Option (List rQ×Int×Int))=_;rw[aM4 aO8]
def XT (o:List rQ):Option (List rQ)->(List rQ×Int)⊕(List rQ×Int×Int)->Prop
 |some l,w=>w= .inl (o++l,0)
 |none,w=>(∃a,w= .inr ([],a,3))\/∃o' k,w= .inl (o',k)/\0<k
def XT.cons {o:List rQ}{t:rQ}{x:Option (List rQ)}{w}(h:XT (o++[t]) x w):XT o (x.map (t:: ·)) w:=by
 cases x with
 |none=>exact h
 |some l=>show w=_;rw[show w=_ from h,aNd];rfl
def a3j: ∀d:Nat,decide ((Int.tmod (d:Int) (2:Int))=(1:Int))=tB d
 |0=>rfl
 |d+1=>by
  have ih:=a3j d;have e1:Int.tmod ((d+1:Nat):Int) 2=(((d+1) %2:Nat):Int):=rfl;have e2:Int.tmod (d:Int) 2=((d%2:Nat):Int):=rfl;rw[e2] at ih;rw[e1,tB,<-ih,aNv];simp;omega
def xm (s:pI) (Y:s.length<=4000): ∀(n j d:Nat) (o:List rQ),s.length<=j+n->j<=s.length->d<=j->o.length<=j->
  ∃w,rC (K7 s) (o,(j:Int),(d:Int))=some w/\XT o (wV (n+1) (s.drop j) j d) w
 |n,j,d,o,hn,hj,hd,Z=>by
  by_cases E:j<s.length
  .cases n with
   |zero=>omega
   |succ n=>
    have hD:s.drop j=s[j]::s.drop (j+1):=aNm E;have Q:fit s:=by unfold fit;omega
    have U:=xk (tB d) (s.drop j);rw[aNE] at U;rw[tA];unfold K7;simp only;rw[aM4 (sI E),aM4 (λ_=>rO E),a3j,a3i E];by_cases hb:tB d=true/\gh s[j]=true
    .rw[aM4 (by rw[hb.1,hb.2];rfl),aM4 (s7 pM),hD,wV,aM4 hb];have:=xm s Y n (j+1) d o pM pM pM pM;rw[Int.natCast_add,Int.natCast_one] at this;exact this
    rw[aM9 aPe];have R:wV (n+1+1) (s.drop j) j d=if (t8 (tB d) (s.drop j)).1=0\/((t8 (tB d) (s.drop j)).1=3/\d=0) then none
      else(wV (n+1) ((s.drop j).drop (t8 (tB d) (s.drop j)).2.2) (j+(t8 (tB d) (s.drop j)).2.2) (BG (t8 (tB d) (s.drop j)).1 d)).map λl=>
       ((t8 (tB d) (s.drop j)).1,(t8 (tB d) (s.drop j)).2.1,(j:Int),((j+(t8 (tB d) (s.drop j)).2.2:Nat):Int),())::l:=by
     rw[hD,wV,aM9 hb]
    rw[R];have I:(if tB d=true then(OV s (j:Int)).bind λO=>some ((O.1,O.2.1,O.2.2.1,O.2.2.2)) else(OW s (j:Int) (d:Int)).bind λa8=>some ((a8.1,a8.2.1,a8.2.2.1,a8.2.2.2)))=
      some (if (t8 (tB d) (s.drop j)).1=0\/((t8 (tB d) (s.drop j)).1=3/\d=0) then((0:Int),([]:pI),(0:Int),(0:Int)) else((t8 (tB d) (s.drop j)).1,(t8 (tB d) (s.drop j)).2.1,(j:Int),((j+(t8 (tB d) (s.drop j)).2.2:Nat):Int))):=by
     cases Z:tB d with
     |true=>
      have G:d≠0:=by rintro rfl;cases Z
      rw[aM4 rfl,aGK s Q j E,aM3];simp only[G,and_false,or_false]
     |false=>
      rw[aM9 pO,aGL s Q j E d,aM3]
    rw[I];obtain⟨K,X⟩: ∃K,t8 (tB d) (s.drop j)=K:=⟨_,rfl⟩;rw[X] at U|-;obtain⟨k,t,z⟩:=K;simp only at U|-;unfold rA;rw[aM3];by_cases D:k=0\/(k=3/\d=0)
    .rw[aM4 D,aM4 D];exact⟨.inr ([],(j:Int),3),rfl,.inl ⟨_,rfl⟩⟩
    rw[aM9 D,aM9 D];simp only;have M: ¬k=0:=λh=>D (.inl h);have hz:=U.2 M;have V:BG k d<=j+z:=by unfold BG;split;omega;split<;>omega
    obtain⟨w,w1,w2⟩:=xm s Y n (j+z) (BG k d) (o++[(k,t,(j:Int),((j+z:Nat):Int),())]) pM pM V aPC;refine⟨w,?_,?_⟩
    .rw[aM9 (by simpa using M)];have F:(o.length+([(k,(t,((j:Int),(((j+z:Nat):Int),()))))]:List rQ).length)*40<=140737488355328:=by simp only[aM5,aM8];omega
     unfold BG at w1;by_cases k2:k=2
     .rw[aM4 (by simpa using k2),aM4 aPv,aM4 F,aM3];rw[aM4 k2,Int.natCast_add d 1] at w1;exact w1
     rw[aM9 (by simpa using k2)];rw[aM9 k2] at w1;by_cases k3:k=3
     .have ha:d≠0:=λh=>D (.inr ⟨k3,h⟩);rw[aM4 (by simpa using k3),aM4 aPv,aM4 F,aM3];rw[aM4 k3,show ((d-1:Nat):Int)=(d:Int)-1 by omega] at w1;exact w1
     rw[aM9 (by simpa using k3),aM4 F,aM3];rw[aM9 k3] at w1;exact w1
    rw[aOa];exact XT.cons w2
  have:j=s.length:=by omega
  subst this;refine⟨.inl (o,(d:Int)),?_,?_⟩
  .rw[tA];unfold K7;simp only;rw[aM9 (sO _)];rfl
  rw[aNH,wV];by_cases G:d=0
  .subst G;rw[aM4 rfl];show _=_;rw[List.append_nil];rfl
  rw[aM9 G];exact .inr ⟨_,_,rfl,pM⟩
def aGN (s:pI) (z:s.length<=4000): ∃l a e,OY s=some (l,a,e)/\(∀t,wV (s.length+1) s 0 0=some t->l=t/\a=0/\e=0)/\(wV (s.length+1) s 0 0=none->e=3/\l=[]):=by
 unfold OY;rw[aM9 pP];obtain⟨w,w1,w2⟩:=xm s z s.length 0 0 [] pM pM pM pO;rw[aNG] at w2;rw[show rC (K7 s) (([]:List rQ),(0:Int),(0:Int))=some w from w1];cases j:wV (s.length+1) s 0 0 with
 |some l=>
  rw[j] at w2;rw[show w=_ from w2];exact⟨l,0,0,by simp [sK],λt h=>(by cases h;exact⟨rfl,rfl,rfl⟩),λh=>aPo⟩
 |none=>
  rw[j] at w2;rcases w2 with⟨a,rfl⟩ |⟨o',k,rfl,hk⟩
  .exact⟨[],a,3,rfl,λt h=>aPo,λ_=>⟨rfl,rfl⟩⟩
  refine⟨[],(s.length:Int),3,?_,λt h=>aPo,λ_=>⟨rfl,rfl⟩⟩;show (if decide ((0:Int)<k)=true then _ else _:Option (List rQ×Int×Int))=_;rw[aM4 aO8]
def UA (c:Int):Bool:=(decide (97<=c)&&decide (c<=122))||(decide (65<=c)&&decide (c<=90))
def IC (s:pI):Bool:=(s.all λb=>UA b.toNat)&&(decide (1<=s.length)&&decide (s.length<=40))
def xn (s:pI) (j:fit s):JR s=some (IC s):=by
 unfold fit at j;have h:=yZ (f:=N5 s) (l:=s) (λb=> !UA b.toNat) (λ_=>false) (λi h=>by
  unfold N5;rw[aM4 (sI h),aM4 (rO h),wF h,aM4 (s7 pM)];congr 1;rw[aNv];simp only[UA];generalize (s[i].toNat:Int)=c;simp<;>omega) (by
  unfold N5;rw[aM9 (sO _)])
 unfold JR;rw[h,BD,GF];unfold IC;cases s.all λb=>UA b.toNat with
 |false=>rfl
 |true=>
  show some ((!decide (s=[]))&&decide ((s.length:Int)<=40))=some ((true:Bool)&&_);rw[Bool.true_and];congr 2
  .rw[aNv];simp;exact aOP.symm
  rw[aNv];simp;omega
def a3k (s:pI) (j:fit s):EA s=some (IC s):=by
 unfold fit at j;have h:=yZ (f:=N8 s) (l:=s) (λb=> !UA b.toNat) (λ_=>false) (λi h=>by
  unfold N8;rw[aM4 (sI h),aM4 (rO h),wF h,aM4 (s7 pM)];rfl) (by
  unfold N8;rw[aM9 (sO _)])
 unfold EA;rw[h,BD,GF];unfold IC;cases s.all λb=>UA b.toNat with
 |false=>rfl
 |true=>
  show some (decide ((1:Int)<=s.length)&&decide ((s.length:Int)<=40))=some ((true:Bool)&&_);rw[Bool.true_and];congr 2<;>(rw[aNv];simp;omega)
def tU:List (pI×Int):=[([110,117,109,98,101,114],3),([117,110,105,116],4),([100,97,116,101],5),([108,105,115,116],6),([112,108,117,114,97,108],7),([111,114,100,105,110,97,108],8),([115,101,108,101,99,116],9)]
abbrev aGO:List (pI×Int):=rL .str (.int .i64) ([115,101,108,101,99,116]:pI) (9:Int) (rL .str (.int .i64) ([111,114,100,105,110,97,108]:pI) (8:Int) (rL .str (.int .i64) ([112,108,117,114,97,108]:pI) (7:Int) (rL .str (.int .i64) ([108,105,115,116]:pI) (6:Int) (rL .str (.int .i64) ([100,97,116,101]:pI) (5:Int) (rL .str (.int .i64) ([117,110,105,116]:pI) (4:Int) (rL .str (.int .i64) ([110,117,109,98,101,114]:pI) (3:Int) ([]:List (pI×Int))))))))
def aGP:aGO=tU:=by kernel_rfl
def w8 (s:pI):Int:=sE .str (.int .i64) tU s
def a3l (s:pI):w8 s=0\/∃i:Nat,i<7/\w8 s=i+3:=by
 unfold w8 tU;simp only[sE]
 repeat' split
 all_goals first|exact .inr ⟨0,pM,rfl⟩ |exact .inr ⟨1,pM,rfl⟩ |exact .inr ⟨2,pM,rfl⟩ |exact .inr ⟨3,pM,rfl⟩ |exact .inr ⟨4,pM,rfl⟩ |exact .inr ⟨5,pM,rfl⟩ |exact .inr ⟨6,pM,rfl⟩ |exact .inl rfl
abbrev gi:pJ:=[([110,117,109,98,101,114]:pI),([117,110,105,116]:pI),([100,97,116,101]:pI),([108,105,115,116]:pI),([112,108,117,114,97,108]:pI),([111,114,100,105,110,97,108]:pI),([115,101,108,101,99,116]:pI)]
def aGQ (s:pI):NB s=some (w8 s):=by
 have h:=yZ (f:=NA s) (l:=gi) (λw=>decide (w=s)) (λk=>(3:Int)+k) (λi h=>by
  unfold NA;have hi:i<7:=h;rw[aM4 (sI h),aM4 (rO h),v7 (t:= .str) h,aM4 (show qG ((3:Int)+(i:Int)) by unfold qG;omega),aM4 (show qG ((i:Int)+1) by unfold qG;omega)]) (by
  unfold NA;rw[aM9 (sO _)])
 unfold NB;rw[h];unfold w8 tU;simp only[sE,xY,aOp,List.findIdx?_nil];have j: ∀w:pI,decide (w=s)=decide (s=w):=λw=>by rw[aNv];simp [eq_comm]
 simp only[j]
 repeat' split
 all_goals first|rfl|simp_all [BC,sK,Ty.zero]
def UB (l:pJ) (s:pI) (j:l.length<=4000000000):yY l s=some (decide (s∈l)):=by
 have h:=yZ (f:=N4 l s) (l:=l) (λw=>decide (w=s)) (λ_=>true) (λi h=>by
  unfold N4;rw[aM4 (sI h),aM4 (rO h),v7 (t:= .str) h,aM4 (s7 pM)]) (by
  unfold N4;rw[aM9 (sO _)])
 unfold yY;rw[h,BD];have:(l.any λw=>decide (w=s))=decide (s∈l):=by
  rw[aNv];simp
 rw[this];cases decide (s∈l)<;>rfl
def PO (c:Int):Bool:=decide (48<=c)&&decide (c<=57)
def DC (s:pI):Bool:=s.all λb=>PO b.toNat
def FE (s:pI):Bool:=s.all λb=>decide (b=48)
def wH (c:UInt8):Bool:= !decide (c=46)
def xo (neg:Bool) (w f:pI) (pt:Bool):Bool:=
 decide (1<=w.length)&&decide (w.length<=15)&&DC w&& !(decide (1<w.length)&&decide (w.head? =some 48))&& !(pt&&decide (f=[]))&&decide (f.length<=6)&&DC f&& !(neg&&(FE w&&FE f))
def UC (neg:Bool) (u:pI):Bool:=xo neg (u.take (rZ wH u)) (u.drop (rZ wH u+1)) (decide (rZ wH u<u.length))
def PP (t:pI):Bool:=if t.head? =some 45 then UC true (t.drop 1) else UC false t
def xp {α:Type}{p:α->Bool}: ∀{l:List α},l.dropWhile p=[]↔l.all p=true
 |[]=>by simp
 |x::l=>by
  rw[List.dropWhile_cons,List.all_cons];cases h:p x with
  |true=>simp [xp (l:=l)]
  |false=>simp
def a3m (s cs:pI):decide (Lib.trimS s cs=[])=s.all (cs.contains ·):=by
 have h:Lib.trimS s cs=[]↔s.all (cs.contains ·)=true:=by
  unfold Lib.trimS Lib.trimLeftS Lib.trimRightS;rw[xp];have D:((s.reverse.dropWhile (cs.contains ·)).reverse).all (cs.contains ·)=true↔s.reverse.dropWhile (cs.contains ·)=[]:=by
   rw[List.all_reverse];constructor
   .intro h;cases j:s.reverse.dropWhile (cs.contains ·) with
    |nil=>rfl
    |cons b r=>
     have hb:=List.head?_dropWhile_not (cs.contains ·) s.reverse;rw[j] at hb h;simp only[List.head?_cons,List.all_cons,aNf] at hb h;rw[h.1] at hb;cases hb
   intro h;rw[h];rfl
  rw[D,xp,List.all_reverse]
 cases hb:s.all (cs.contains ·) with
 |true=>exact aN6 (h.2 hb)
 |false=>exact decide_eq_false λz=>by rw[h.1 z] at hb;cases hb
def aGR (b:UInt8):([48,49,50,51,52,53,54,55,56,57]:pI).contains b=PO b.toNat:=by
 have: ∀n:Fin 256,([48,49,50,51,52,53,54,55,56,57]:pI).contains (UInt8.ofNat n.1)=PO ((UInt8.ofNat n.1).toNat:Int):=by decide
 have h:=this ⟨b.toNat,b.toNat_lt⟩;simpa using h
def aGS (s:pI):decide (Lib.trimS s ([48,49,50,51,52,53,54,55,56,57]:pI)=[])=DC s:=by
 rw[a3m];unfold DC;congr 1;funext b;exact aGR b
def aGT (s:pI):decide (Lib.trimS s ([48]:pI)=[])=FE s:=by
 rw[a3m];unfold FE;congr 1;funext b;rw[aNv];simp
def a3n (x:UInt8) (t:pI):G6 t [x]=some (if t.head? =some x then(t.drop 1,true) else(t,false)):=by
 unfold G6 S2 S1;have G:((([x]:pI).length:Nat):Int)=1:=rfl;rw[G];cases t with
 |nil=>rfl
 |cons a r=>
  have F:decide ((1:Int)<=((a::r).length:Int))=true:=by simp;omega
  have E:s8 (a::r) (0:Int) (1:Int)=[a]:=rfl;rw[aM4 (λ_=>⟨pM,pM,by simp;omega⟩),F,E];have D:s8 (a::r) (1:Int) ((a::r).length:Int)=r:=by
   rw[show (1:Int)=((1:Nat):Int) from rfl,FB];rfl
  by_cases j:a=x
  .subst j;simp only[aM3,decide_true,Bool.and_self,Bool.not_true,aNJ,aOh];rw[aM4 ⟨pM,by simp;omega,aN2 _⟩,D];simp
  have z:decide ([a]=([x]:pI))=false:=by simpa using j
  rw[z];simp [j]
def a3o (x:UInt8): ∀(l:pI),Lib.index l [x]=PH (l.findIdx? λb=>decide (b=x))
 |[]=>rfl
 |b::t=>by
  rw[Lib.index,aOp,a3o x t,a2T];have hp:([x]:pI).isPrefixOf (b::t)=decide (b=x):=by
   simp only[List.isPrefixOf,Bool.and_true,a2S]
  rw[hp];by_cases h:b=x
  .rw[aM4 aO4,aM4 aO4];rfl
  rw[aM9 aO4,aM9 aO4]
def aGU (u:pI) (D:fit u):O3 u [46]=some (u.take (rZ wH u),u.drop (rZ wH u+1),decide (rZ wH u<u.length)):=by
 unfold fit at D;unfold O3 WL FU;have z:=fv wH u;have E:(λb=> !wH b)=λb=>decide (b=46):=by funext b;simp [wH]
 rw[E] at z;have G:=GG wH u;rw[a3o,z,aM4 pM];have F:((([46]:pI).length:Nat):Int)=1:=rfl;rw[F];by_cases j:rZ wH u<u.length
 .rw[aM4 j];show (Option.bind (if decide ((0:Int)<=((rZ wH u:Nat):Int))=true then _ else _) _:Option (pI×pI×Bool))=_;have e1:PH (some (rZ wH u))=((rZ wH u:Nat):Int):=rfl;rw[aM4 pO,e1,aM4 ⟨pM,pM,pM⟩,aM4 aPv,aM4 ⟨pM,pM,aN2 _⟩,U0,show ((rZ wH u:Nat):Int)+1=((rZ wH u+1:Nat):Int) by omega,FB];simp [j]
 rw[aM9 j];have e1:PH none= -1:=rfl;rw[e1,aM9 pO,aM3];have e2:rZ wH u=u.length:=by omega
 rw[e2,List.take_length,List.drop_eq_nil_of_le pM];simp
def a3p (w:pI):decide (qZ w (0:Int)=(48:Int))=decide (w.head? =some 48):=by
 cases w with
 |nil=>rfl
 |cons a r=>
  have:=z7 (s:=a::r) (i:=0) pO 48 pN;rw[show ((48:Nat):Int)=48 from rfl,show ((0:Nat):Int)=0 from rfl,show UInt8.ofNat 48=48 from rfl] at this;rw[this];simp
def a3q (s:pI) (j:fit s):(HN s).isSome=true:=by
 unfold fit at j;unfold HN;rw[aM4 ⟨pN,pN⟩,aM4 pM];rfl
def a3r (s:pI) (j:fit s):N9 s=some ():=by
 unfold fit at j;unfold N9;rw[aM4 ⟨pN,pN⟩,aM4 pM]
def dnz (b:Bool) (w f:pI) (j:fit w) (hf:fit f):(O5 (b,(w,(f,())))).isSome=true:=by
 unfold O5;rw[a3r w j,aM3,aM4 (λ_=>by rw[a3r f hf];rfl)];rfl
def a3s (t:pI) (E:fit t):OX t=some (PP t):=by
 unfold fit at E;unfold OX X9;rw[a3n,aM3];have key: ∀(neg:Bool) (u:pI),fit u->(((O3 u ([46]:pI)).bind λO=>
   if (((((O.1.length:Int)<(1:Int))||((15:Int)<(O.1.length:Int)))==false)=true->((HN O.1)).isSome=true) then
    if (((((((O.1.length:Int)<(1:Int))||((15:Int)<(O.1.length:Int)))||(!((Lib.trimS O.1 ([48,49,50,51,52,53,54,55,56,57]:pI))=([]:pI))))==false)&&((decide ((1:Int)<(O.1.length:Int)))==true))=true->0<=(0:Int)/\(0:Int)<(O.1.length:Int)) then
     if (((((O.1.length:Int)<(1:Int))||((15:Int)<(O.1.length:Int)))||(!((Lib.trimS O.1 ([48,49,50,51,52,53,54,55,56,57]:pI))=([]:pI))))||(((1:Int)<(O.1.length:Int))&&((qZ O.1 (0:Int))=(48:Int))))=true then some ((neg,O.1,O.2.1,false))
     else if ((((O.2.2&&((O.2.1.length:Int)=(0:Int)))||((6:Int)<(O.2.1.length:Int)))==false)=true->((HN O.2.1)).isSome=true) then
      if (((O.2.2&&((O.2.1.length:Int)=(0:Int)))||((6:Int)<(O.2.1.length:Int)))||(!((Lib.trimS O.2.1 ([48,49,50,51,52,53,54,55,56,57]:pI))=([]:pI))))=true then some ((neg,O.1,O.2.1,false))
      else if (((!neg)==false)=true->((O5 (neg,(O.1,(O.2.1,()))))).isSome=true) then
       some ((neg,O.1,O.2.1,((!neg)||(!(((Lib.trimS O.1 ([48]:pI))=([]:pI))&&((Lib.trimS O.2.1 ([48]:pI))=([]:pI)))))))
      else none
     else none
    else none
   else(none:Option (Bool×pI×pI×Bool))).bind λa8=>some (a8.2.2.2))=some (UC neg u):=by
  intro neg u D;rw[aGU u D,aM3];have j:fit (u.take (rZ wH u)):=by unfold fit at D|-;rw[aNR];omega
  have z:fit (u.drop (rZ wH u+1)):=by unfold fit at D|-;rw[aNE];omega
  unfold UC;generalize u.take (rZ wH u)=w at j;generalize u.drop (rZ wH u+1)=f at z;generalize decide (rZ wH u<u.length)=pt;simp only[aGS,aGT];rw[aM4 (λ_=>a3q w j)];have c1:decide ((w.length:Int)<1)= !decide (1<=w.length):=by rw[aNv,aNj,aNS,aN5];omega
  have c2:decide ((15:Int)<(w.length:Int))= !decide (w.length<=15):=by rw[aNv];simp;omega
  have c3:decide ((1:Int)<(w.length:Int))=decide (1<w.length):=by rw[aNv];simp;omega
  have c4:decide ((f.length:Int)=0)=decide (f=[]):=by rw[aNv];simp
  have c5:decide ((6:Int)<(f.length:Int))= !decide (f.length<=6):=by rw[aNv];simp;omega
  rw[c1,c2,c3,c4,c5];unfold xo;by_cases G:1<=w.length
  .rw[aM4 (λ_=>⟨pM,pM⟩),a3p];cases decide (1<=w.length)<;>cases decide (w.length<=15)<;>cases DC w<;>cases decide (1<w.length)<;>cases decide (w.head? =some 48)<;>simp only[Bool.not_true,Bool.not_false,Bool.or_true,Bool.true_or,Bool.or_false,Bool.false_or,Bool.and_true,Bool.and_false,Bool.true_and,aOs,aOc,aNJ,aOh,aM3,Option.bind]
   all_goals
    rw[aM4 (λ_=>a3q f z)];cases pt<;>cases decide (f=[])<;>cases decide (f.length<=6)<;>cases DC f<;>simp only[Bool.not_true,Bool.not_false,Bool.or_true,Bool.true_or,Bool.or_false,Bool.false_or,Bool.and_true,Bool.and_false,Bool.true_and,aOs,aOc,aNJ,aOh]
   all_goals
    rw[aM4 (λ_=>dnz neg w f j z)];cases neg<;>simp
  have F:decide (1<=w.length)=false:=by simpa using G
  rw[F,aM4 (λh=>by simp at h),aM4 pO];rfl
 unfold PP;by_cases h:t.head? =some 45
 .rw[aM4 h,aM4 h];exact key true (t.drop 1) (by unfold fit;rw[aNE];omega)
 rw[aM9 h,aM9 h];exact key false t E
def aGW (s:pI) (j:fit s):S4 s=some (DC s):=by
 unfold fit at j;have h:=yZ (f:=ND s) (l:=s) (λb=> !PO b.toNat) (λ_=>false) (λi h=>by
  unfold ND;rw[aM4 (sI h),aM4 (rO h),aM4 (λ_=>rO h),wF h,aM4 (s7 pM)];congr 1;rw[aNv];simp only[PO];generalize (s[i].toNat:Int)=c;simp<;>omega) (by
  unfold ND;rw[aM9 (sO _)])
 unfold S4;rw[h,BD,GF];show _=some (s.all λb=>PO b.toNat);cases s.all λb=>PO b.toNat<;>rfl
def a3t (s:pI) (j:fit s):NF s=some (FE s):=by
 unfold fit at j;have h:=yZ (f:=NE s) (l:=s) (λb=> !decide (b=48)) (λ_=>false) (λi h=>by
  unfold NE;have hb:=z7 h 48 pN;rw[show ((48:Nat):Int)=48 from rfl,show UInt8.ofNat 48=48 from rfl] at hb;rw[aM4 (sI h),aM4 (rO h),hb,aM4 (s7 pM)]) (by
  unfold NE;rw[aM9 (sO _)])
 unfold NF;rw[h,BD,GF];show _=some (s.all λb=>decide (b=48));cases s.all λb=>decide (b=48)<;>rfl
def aGX (s:pI) (j:fit s):rC (SL s) 0=some ((rZ wH s:Nat):Int):=by
 unfold fit at j;have h:=fw (f:=SL s) (s:=s) wH (λi h=>by
  unfold SL;have hb:=z7 h 46 pN;rw[show ((46:Nat):Int)=46 from rfl,show UInt8.ofNat 46=46 from rfl] at hb;rw[aM4 (λ_=>rO h),hb,aM4 (s7 pM),sI h];rfl) (by
  unfold SL;rw[aM4 (λh=>absurd h pO),aM9 pO]) s.length 0 pM
 rw[show ((0:Nat):Int)=0 from rfl] at h;rw[h];simp
def a3u (t:pI) (R:fit t):OE t=some (PP t):=by
 unfold fit at R;unfold OE WY;rw[aM4 (λh=>⟨aN2 _,by simpa using h⟩)];have E:(if (((0:Int)<(t.length:Int))&&((qZ t (0:Int))=(45:Int)))=true then(if 0<=(1:Int)/\(1:Int)<=(t.length:Int)/\(t.length:Int)<=(t.length:Int) then some (((s8 t (1:Int) (t.length:Int)),true)) else none) else some ((t,false)))=some (if t.head? =some 45 then(t.drop 1,true) else(t,false)):=by
  cases t with
  |nil=>rfl
  |cons a r=>
   have hb:=PN (c:=a) (r:=r) 45 pN;rw[show ((45:Nat):Int)=45 from rfl,show UInt8.ofNat 45=45 from rfl] at hb;have h0:decide ((0:Int)<((a::r).length:Int))=true:=aN6 aPc;have X:s8 (a::r) (1:Int) ((a::r).length:Int)=(a::r).drop 1:=by rw[show (1:Int)=((1:Nat):Int) from rfl,FB]
   have V:(0:Int)<=1/\(1:Int)<=((a::r).length:Int)/\((a::r).length:Int)<=((a::r).length:Int):=⟨pM,by simp only[aM5];omega,aN2 _⟩;rw[hb,h0,Bool.true_and,X];by_cases h:a=45
   .rw[aM4 (show decide (a=45)=true by simpa using h),aM4 V,aM4 (show (a::r).head? =some 45 by simpa using h)]
   rw[aM9 (show¬decide (a=45)=true by simpa using h),aM9 (show¬(a::r).head? =some 45 by simpa using h)]
 rw[E];unfold rA;rw[aM3];obtain⟨q,F⟩: ∃q:pI×Bool,(if t.head? =some 45 then(t.drop 1,true) else(t,false))=q:=⟨_,rfl⟩;have D:PP t=UC q.2 q.1:=by
  rw[<-F];unfold PP;split<;>rfl
 have z:fit q.1:=by
  rw[<-F];unfold fit;split<;>(try rw[aNE])<;>omega
 rw[F,D];obtain⟨u,neg⟩:=q;simp only at z|-;rw[aGX u z,aM3];have Q:=z;unfold fit at Q;have K:=GG wH u;rw[aM4 ⟨pM,pM,pM⟩,U0];unfold UC;obtain⟨p,hp⟩: ∃p,rZ wH u=p:=⟨_,rfl⟩;rw[hp] at K|-;have M:fit (u.take p):=by unfold fit;rw[aNR];omega
 have O:fit (u.drop (p+1)):=by unfold fit;rw[aNE];omega
 have I:(if (decide ((p:Int)<(u.length:Int)))=true then(if qG ((p:Int)+(1:Int)) then(if 0<=((p:Int)+(1:Int))/\((p:Int)+(1:Int))<=(u.length:Int)/\(u.length:Int)<=(u.length:Int) then(if (decide (((s8 u ((p:Int)+(1:Int)) (u.length:Int)).length:Int)=(0:Int)))=true then some (.inr ((false,([]:pI),([]:pI),false))) else some (.inl (s8 u ((p:Int)+(1:Int)) (u.length:Int)))) else none) else none) else some (.inl ([]:pI)))=
   some (if (decide (p<u.length)&&decide (u.drop (p+1)=[]))=true then .inr (false,([]:pI),([]:pI),false) else(.inl (u.drop (p+1)):pI⊕(Bool×pI×pI×Bool))):=by
  by_cases h:p<u.length
  .rw[aM4 (sI h),aM4 (s7 pM),aM4 ⟨pM,pM,aN2 _⟩,show ((p:Int)+1)=((p+1:Nat):Int) by omega,FB];have D:decide (p<u.length)=true:=by simpa using h
   rw[D,Bool.true_and];by_cases G:u.drop (p+1)=[]
   .rw[G];rfl
   have Y:decide ((((u.drop (p+1)).length:Nat):Int)=0)=false:=by
    rw[aN5];intro e;exact G (aOf.1 pM)
   rw[Y,aM9 pO,aM9 (by simpa using G)]
  rw[aM9 pP];have D:decide (p<u.length)=false:=by simpa using h
  rw[D,List.drop_eq_nil_of_le pM];rfl
 rw[I];have j:fit (u.take p++u.drop (p+1)):=by unfold fit;rw[aM7,aNR,aNE];omega
 generalize u.take p=w at M j;generalize u.drop (p+1)=f at O j;generalize decide (p<u.length)=pt;unfold sK xo;rw[aM3];cases Z:(pt&&decide (f=[])) with
 |true=>simp
 |false=>
  rw[aM9 pO];simp only;have U:=j;unfold fit at U;have e1:DC (w++f)=(DC w&&DC f):=by unfold DC;rw[List.all_append]
  have e2:FE (w++f)=(FE w&&FE f):=by unfold FE;rw[List.all_append]
  rw[aM4 pM,aGW _ j,aM3,aM4 (λh=>⟨pM,by
   simp only[aNf,aOQ,aNj] at h;omega⟩),aM4 (λ_=>by omega),aM4 (λ_=>by rw[a3t _ j];rfl),a3t _ j,uB,a3p,e1,e2]
  have c1:decide ((w.length:Int)<1)= !decide (1<=w.length):=by rw[aNv,aNj,aNS,aN5];omega
  have c2:decide ((15:Int)<(w.length:Int))= !decide (w.length<=15):=by rw[aNv];simp;omega
  have c3:decide ((1:Int)<(w.length:Int))=decide (1<w.length):=by rw[aNv];simp;omega
  have c5:decide ((6:Int)<(f.length:Int))= !decide (f.length<=6):=by rw[aNv];simp;omega
  rw[c1,c2,c3,c5];cases decide (1<=w.length)<;>cases decide (w.length<=15)<;>cases DC w<;>cases DC f<;>cases decide (1<w.length)<;>cases decide (w.head? =some 48)<;>cases decide (f.length<=6)<;>cases neg<;>cases FE w<;>cases FE f<;>rfl
def gj (s:pI):Bool:=decide (s=[122,101,114,111])||decide (s=[111,110,101])||decide (s=[116,119,111])||decide (s=[102,101,119])||decide (s=[109,97,110,121])||decide (s=[111,116,104,101,114])
def tM (k:Int) (s:pI):Bool:=if k=9 then uO s else gj s||(decide (s.head? =some 61)&&PP (s.drop 1))
def aGY:PP []=false:=by decide
def aGZ (s:pI):NC s=gj s:=by
 unfold NC gj
 repeat' split
 all_goals simp_all
def gl (k:Int) (s:pI) (j:fit s):D9 k s=some (tM k s):=by
 unfold D9 tM;by_cases hk:k=9
 .rw[aM4 aO8,aM4 hk,PL s j];rfl
 have z:fit (s.drop 1):=by unfold fit at j|-;rw[aNE];omega
 rw[aM9 aO8,aM9 hk,a3n,aM3,aGZ];by_cases h:s.head? =some 61
 .rw[aM4 h,aM4 (λ_=>by rw[a3s _ z];rfl),a3s _ z,uB];simp [h]
 rw[aM9 h,aM4 (λh=>by simp at h)];simp [h]
def gm (k:Int) (s:pI) (z:fit s):BB k s=some (tM k s):=by
 unfold BB tM;by_cases hk:k=9
 .rw[aM4 aO8,aM4 hk,KV s z];rfl
 have D:fit (s.drop 1):=by unfold fit at z|-;rw[aNE];omega
 have j:s8 s (1:Int) (s.length:Int)=s.drop 1:=by rw[show (1:Int)=((1:Nat):Int) from rfl,FB]
 rw[aM9 aO8,aM9 hk,j,aM4 (λh=>by
  simp only[aNf,aOQ,aNj] at h;exact⟨pM,pM⟩),aM4 (λh=>by
  simp only[aNf,aOQ,aNj] at h;exact⟨pM,pM,aN2 _⟩),aM4 (λ_=>by rw[a3u _ D];rfl),a3u _ D,uB]
 show some (gj s||_)=_
 congr 2;cases s with
 |nil=>rfl
 |cons a r=>
  have hb:=PN (c:=a) (r:=r) 61 pN;rw[show ((61:Nat):Int)=61 from rfl,show UInt8.ofNat 61=61 from rfl] at hb;rw[hb];cases r with
  |nil=>
   rw[show ([a]:pI).drop 1=[] from rfl,aGY,Bool.and_false,Bool.and_false]
  |cons b r=>
   rw[show decide ((1:Int)<((a::b::r).length:Int))=true by simp;omega];simp
def uH {α:Type}(x:α):(some x).isSome=true:=rfl
def s4:List rQ->Int
 |[]=>0
 |t::_=>t.1
def tV:List rQ->pI
 |[]=>[]
 |t::_=>t.2.1
abbrev Nm:Type:=pR
section
variable {s:pI}{L:List rQ}{i:Nat}{a e k:Int}{m:Nm}
def A1 (h:i<L.length):qH sN L (i:Int)=L[i]:=v7 (t:=sN) h
def vT:vQ s L (i:Int) (a,(0,())) m=some (s4 (L.drop i)):=by
 unfold vQ;by_cases h:i<L.length
 .rw[aM9 pP,aM4 (rO h),A1 h,aNm h];rfl
 rw[aM4 pP,List.drop_eq_nil_of_le pM];rfl
def C9 (j:e≠0):vQ s L (i:Int) (a,(e,())) m=some 0:=by
 unfold vQ;rw[aM4 aPw]
def BH (x:Int): ∃a',vR s L (i:Int) (a,(0,())) x m=some (a',x):=by
 unfold vR WI;rw[aM4 pO];by_cases h:i<L.length
 .rw[aM4 (sI h),aM4 (rO h)];exact⟨_,rfl⟩
 rw[aM9 pP];exact⟨_,rfl⟩
def GH (j:e≠0) (x:Int):vR s L (i:Int) (a,(e,())) x m=some (a,e):=by
 unfold vR;rw[aM9 aO5]
def A2 {t:rQ}{r:List rQ}(h:L.drop i=t::r) (z:L.length<=4000) (hk:t.1=k):sT s L (i:Int) (a,(0,())) k m=some (t.2.1,((i+1:Nat):Int),a,0):=by
 have hi:i<L.length:=by
  by_cases hi:i<L.length
  .exact hi
  rw[List.drop_eq_nil_of_le pM] at h;cases h
 have j:L[i]=t:=by rw[aNm hi] at h;exact(List.cons.inj h).1
 unfold sT;rw[vT,aM3,h];show (if (!decide (t.1=k))=true then _ else _:Option (pI×Int×Int×Int))=_;rw[aM9 aO8,aM4 aPv,aM4 aPv,aM4 ⟨pM,pM⟩,show ((i:Int)+1-1)=(i:Int) by omega,A1 hi,j];rfl
def PQ (hk:s4 (L.drop i)≠k): ∃a',sT s L (i:Int) (a,(0,())) k m=some ([],(i:Int),a',3):=by
 unfold sT;rw[vT,aM3,aM4 aO8];obtain⟨a',h⟩:=BH (s:=s) (L:=L) (i:=i) (a:=a) (m:=m) 3;rw[h];exact⟨a',rfl⟩
def yN (j:e≠0) (hk:k≠0):sT s L (i:Int) (a,(e,())) k m=some ([],(i:Int),a,e):=by
 unfold sT;rw[C9 j,aM3,aM4 (by simpa using λh=>hk h.symm),GH j];rfl
def xq {d:Int}(h:d<=8):EE s L (i:Int) (a,(e,())) d m=some (a,e):=by
 unfold EE;rw[aM9 aO4]
def xr {d:Int}(h:8<d): ∃a',EE s L (i:Int) (a,(0,())) d m=some (a',6):=by
 unfold EE;rw[aM4 aO4];obtain⟨a',h⟩:=BH (s:=s) (L:=L) (i:=i) (a:=a) (m:=m) 6;rw[h];exact⟨a',rfl⟩
end
section
variable {ts:List rQ}{n a e k:Int}{ns:pJ}
def wI: ∃x y,vD (ts,(n,(ns,(a,(e,())))))=some (s4 ts,tV ts,x,y):=by
 unfold vD;cases ts with
 |nil=>exact⟨_,_,rfl⟩
 |cons t r=>
  rw[aM9 (by simp<;>omega),aM4 ⟨pM,by simp<;>omega⟩]
  exact⟨_,_,rfl⟩
def GI (x:Int): ∃a',xS (ts,(n,(ns,(a,(0,()))))) x=some (a',x):=by
 unfold xS;rw[aM4 pO];obtain⟨p,q,h⟩:=wI (ts:=ts) (n:=n) (ns:=ns) (a:=a) (e:=0);rw[h];exact⟨_,rfl⟩
def gn (j:e≠0) (x:Int):xS (ts,(n,(ns,(a,(e,()))))) x=some (a,e):=by
 unfold xS;rw[aM9 aO5]
def DD {t:rQ}{r:List rQ}(h:ts=t::r) (hk:t.1=k):uD (ts,(n,(ns,(a,(0,()))))) k=some (t.2.1,r,a,0):=by
 subst h;unfold uD;obtain⟨p,q,h⟩:=wI (ts:=t::r) (n:=n) (ns:=ns) (a:=a) (e:=0);rw[h,aM3];unfold rA;rw[aM9 (show¬(!decide (s4 (t::r)=k))=true by simp [s4,hk]),aM3];simp only;rw[aM9 pO,aM4 ⟨pM,by simp;omega,aN2 _⟩];have:s8 (t::r) (1:Int) (((t::r).length:Nat):Int)=r:=by
  rw[show (1:Int)=((1:Nat):Int) from rfl,FB];rfl
 rw[this];rfl
def ID (hk:s4 ts≠k): ∃a',uD (ts,(n,(ns,(a,(0,()))))) k=some ([],ts,a',3):=by
 unfold uD;obtain⟨p,q,h⟩:=wI (ts:=ts) (n:=n) (ns:=ns) (a:=a) (e:=0);obtain⟨a',j⟩:=GI (ts:=ts) (n:=n) (ns:=ns) (a:=a) 3;rw[h,aM3];unfold rA;rw[aM4 aO8,j];exact⟨a',rfl⟩
def yO (j:e≠0):uD (ts,(n,(ns,(a,(e,()))))) k=some ([],ts,a,e):=by
 unfold uD;obtain⟨p,q,h⟩:=wI (ts:=ts) (n:=n) (ns:=ns) (a:=a) (e:=e);rw[h,aM3];unfold rA;have:(if (!decide (s4 ts=k))=true then(xS (ts,(n,(ns,(a,(e,()))))) 3).bind λO=>some (O.1,O.2) else some (a,e))=some (a,e):=by
  rw[gn j];split<;>rfl
 refine Eq.trans (aNz (λq=>Option.bind q _) this) ?_;rw[aM3];simp only;rw[aM4 aO5]
def xu {d:Int}(h:d<=8):F6 (ts,(n,(ns,(a,(e,()))))) d=some (a,e):=by
 unfold F6;rw[aM9 aO4]
def xv {d:Int}(h:8<d): ∃a',F6 (ts,(n,(ns,(a,(0,()))))) d=some (a',6):=by
 unfold F6;rw[aM4 aO4];obtain⟨a',h⟩:=GI (ts:=ts) (n:=n) (ns:=ns) (a:=a) 6;rw[h];exact⟨a',rfl⟩
def XU {t:rQ}{r:List rQ}(h:ts=t::r) (hk:t.1=9):vM (ts,(n,(ns,(a,(0,()))))) true=some (t.2.1,r,a,0):=by
 unfold vM;obtain⟨p,q,j⟩:=wI (ts:=ts) (n:=n) (ns:=ns) (a:=a) (e:=0);rw[j,aM3,aM9 (by subst h;simp [s4,hk]),DD h hk];rfl
def UD {b:Bool}(h:s4 ts≠9\/b=false): ∃a',vM (ts,(n,(ns,(a,(0,()))))) b=some ([],ts,a',3):=by
 unfold vM;obtain⟨p,q,z⟩:=wI (ts:=ts) (n:=n) (ns:=ns) (a:=a) (e:=0);obtain⟨a',j⟩:=GI (ts:=ts) (n:=n) (ns:=ns) (a:=a) 3;rw[z,aM3,aM4 (by rcases h with h|h<;>simp [h]),j,aM3]
 simp only;rw[yO pN];exact⟨a',rfl⟩
def gp {b:Bool}(j:e≠0):vM (ts,(n,(ns,(a,(e,()))))) b=some ([],ts,a,e):=by
 unfold vM;obtain⟨p,q,z⟩:=wI (ts:=ts) (n:=n) (ns:=ns) (a:=a) (e:=e);rw[z,aM3];split
 .rw[gn j,aM3];simp only;rw[yO j];rfl
 rw[yO j];rfl
end
section
variable {s:pI}{L:List rQ}{i:Nat}{a e:Int}{m:Nm}
def vH {t:rQ}{r:List rQ}(h:L.drop i=t::r):i<L.length/\∀hi:i<L.length,L[i]=t:=by
 have hi:i<L.length:=by
  by_cases hi:i<L.length
  .exact hi
  rw[List.drop_eq_nil_of_le pM] at h;cases h
 exact⟨hi,λhi=>by rw[aNm hi] at h;exact(List.cons.inj h).1⟩
def hd9 (h:s4 (L.drop i)=9): ∃t r,L.drop i=t::r/\t.1=9:=by
 cases j:L.drop i with
 |nil=>rw[j] at h;cases h
 |cons t r=>rw[j] at h;exact⟨t,r,rfl,h⟩
def xw {t:rQ}{r:List rQ}(h:L.drop i=t::r) (D:L.length<=4000) (hk:t.1=9) (hf:fit t.2.1) (z:uO t.2.1=true):C5 s L (i:Int) (a,(0,())) m=some (t.2.1,((i+1:Nat):Int),a,0):=by
 obtain⟨hi,j⟩:=vH h;unfold C5;have E:s4 (L.drop i)=9:=by rw[h];exact hk
 rw[vT,aM3,E,aM4 (λ_=>rO hi),A1 hi,j hi,PL _ hf,aM4 (λ_=>uH _),uB,z,aM9 pO,A2 h D hk];rfl
def xx (hf: ∀t∈L,fit t.2.1) (h:s4 (L.drop i)≠9\/uO (tV (L.drop i))=false): ∃a',C5 s L (i:Int) (a,(0,())) m=some ([],(i:Int),a',3):=by
 obtain⟨a',E⟩:=BH (s:=s) (L:=L) (i:=i) (a:=a) (m:=m) 3;unfold C5;rw[vT,aM3];by_cases z:s4 (L.drop i)=9
 .obtain⟨t,r,j,G⟩:=hd9 z;obtain⟨hi,D⟩:=vH j;have F:uO t.2.1=false:=by
   rcases h with h|h
   .exact absurd z h
   rw[j] at h;exact h
  rw[z,aM4 (λ_=>rO hi),A1 hi,D hi,PL _ (hf t (by rw[<-D hi];exact aNc hi)),aM4 (λ_=>uH _),uB,F,aM4 pO,E];exact⟨a',rfl⟩
 have j:decide (s4 (L.drop i)=9)=false:=by simpa using z
 rw[j,aM4 (λh=>by simp at h),aM4 (λh=>by simp at h),aM4 pO,E];exact⟨a',rfl⟩
def a3v (j:e≠0):C5 s L (i:Int) (a,(e,())) m=some ([],(i:Int),a,e):=by
 unfold C5;rw[C9 j,aM3,aM4 (λh=>by simp at h),aM4 (λh=>by simp at h),aM4 pO,GH j];rfl
def aG0 {t:rQ}{r:List rQ}(h:L.drop i=t::r) (D:L.length<=4000) (hk:t.1=9) (hf:fit t.2.1) (z:IC t.2.1=true):D7 s L (i:Int) (a,(0,())) m=some (t.2.1,((i+1:Nat):Int),a,0):=by
 obtain⟨hi,j⟩:=vH h;unfold D7;have E:s4 (L.drop i)=9:=by rw[h];exact hk
 rw[vT,aM3,E,aM4 (λ_=>rO hi),A1 hi,j hi,xn _ hf,aM4 (λ_=>uH _),uB,z,aM9 pO,A2 h D hk];rfl
def aG1 (hf: ∀t∈L,fit t.2.1) (h:s4 (L.drop i)≠9\/IC (tV (L.drop i))=false): ∃a',D7 s L (i:Int) (a,(0,())) m=some ([],(i:Int),a',3):=by
 obtain⟨a',E⟩:=BH (s:=s) (L:=L) (i:=i) (a:=a) (m:=m) 3;unfold D7;rw[vT,aM3];by_cases z:s4 (L.drop i)=9
 .obtain⟨t,r,j,G⟩:=hd9 z;obtain⟨hi,D⟩:=vH j;have F:IC t.2.1=false:=by
   rcases h with h|h
   .exact absurd z h
   rw[j] at h;exact h
  rw[z,aM4 (λ_=>rO hi),A1 hi,D hi,xn _ (hf t (by rw[<-D hi];exact aNc hi)),aM4 (λ_=>uH _),uB,F,aM4 pO,E];exact⟨a',rfl⟩
 have j:decide (s4 (L.drop i)=9)=false:=by simpa using z
 rw[j,aM4 (λh=>by simp at h),aM4 (λh=>by simp at h),aM4 pO,E];exact⟨a',rfl⟩
def aG2 (j:e≠0):D7 s L (i:Int) (a,(e,())) m=some ([],(i:Int),a,e):=by
 unfold D7;rw[C9 j,aM3,aM4 (λh=>by simp at h),aM4 (λh=>by simp at h),aM4 pO,GH j];rfl
def PR (s:pI):Bool:=decide (s=[105,110,116,101,103,101,114])||decide (s=[112,101,114,99,101,110,116])
def aG3 {t:rQ}{r:List rQ}(h:L.drop i=t::r) (D:L.length<=4000) (hk:t.1=9) (j:PR t.2.1=true):D6 s L (i:Int) (a,(0,())) m=some (t.2.1,((i+1:Nat):Int),a,0):=by
 obtain⟨hi,z⟩:=vH h;unfold D6;have E:s4 (L.drop i)=9:=by rw[h];exact hk
 unfold PR at j;rw[vT,aM3,E,aM4 (λ_=>rO hi),A1 hi,z hi,j,aM9 pO,A2 h D hk];rfl
def aG4 (h:s4 (L.drop i)≠9\/PR (tV (L.drop i))=false): ∃a',D6 s L (i:Int) (a,(0,())) m=some ([],(i:Int),a',3):=by
 obtain⟨a',E⟩:=BH (s:=s) (L:=L) (i:=i) (a:=a) (m:=m) 3;unfold D6;rw[vT,aM3];by_cases z:s4 (L.drop i)=9
 .obtain⟨t,r,j,G⟩:=hd9 z;obtain⟨hi,F⟩:=vH j;have D:PR t.2.1=false:=by
   rcases h with h|h
   .exact absurd z h
   rw[j] at h;exact h
  unfold PR at D;rw[z,aM4 (λ_=>rO hi),A1 hi,F hi,D,aM4 pO,E];exact⟨a',rfl⟩
 have j:decide (s4 (L.drop i)=9)=false:=by simpa using z
 rw[j,aM4 (λh=>by simp at h),aM4 pO,E];exact⟨a',rfl⟩
def aG5 (j:e≠0):D6 s L (i:Int) (a,(e,())) m=some ([],(i:Int),a,e):=by
 unfold D6;rw[C9 j,aM3,aM4 (λh=>by simp at h),aM4 pO,GH j];rfl
def aG6 {t:rQ}{r:List rQ}(h:L.drop i=t::r) (E:L.length<=4000) (hk:t.1=9) (D:w8 t.2.1≠0):EF s L (i:Int) (a,(0,())) m tU=some (t.2.1,((i+1:Nat):Int),a,0):=by
 obtain⟨hi,j⟩:=vH h;unfold EF;have F:s4 (L.drop i)=9:=by rw[h];exact hk
 have z:decide (sE .str (.int .i64) tU t.2.1=(0:Int))=false:=decide_eq_false D;rw[vT,aM3,F,aM4 pO,aM4 (λ_=>rO hi),A1 hi,j hi,z,aM9 pO,A2 h E hk];rfl
def aG7 (h:s4 (L.drop i)≠9\/w8 (tV (L.drop i))=0): ∃a',EF s L (i:Int) (a,(0,())) m tU=some ([],(i:Int),a',3):=by
 obtain⟨a',D⟩:=BH (s:=s) (L:=L) (i:=i) (a:=a) (m:=m) 3;unfold EF;rw[vT,aM3];by_cases z:s4 (L.drop i)=9
 .obtain⟨t,r,j,I⟩:=hd9 z;obtain⟨hi,E⟩:=vH j;have G:w8 t.2.1=0:=by
   rcases h with h|h
   .exact absurd z h
   rw[j] at h;exact h
  have F:decide (sE .str (.int .i64) tU t.2.1=(0:Int))=true:=aN6 G;rw[z,aM4 pO,aM4 (λ_=>rO hi),A1 hi,E hi,F,aM4 pO,D];exact⟨a',rfl⟩
 have j:decide (s4 (L.drop i)=9)=false:=by simpa using z
 rw[j,aM9 pO,aM4 rfl,D];exact⟨a',rfl⟩
def aG8 (j:e≠0):EF s L (i:Int) (a,(e,())) m tU=some ([],(i:Int),a,e):=by
 unfold EF;rw[C9 j,aM3,aM9 pO,aM4 rfl,GH j];rfl
def a3w (k:Int) (t:pI) (hf:fit t):OZ t k=some (tM k t):=by
 unfold OZ;rw[gl k t hf];rfl
def aG9 {t:rQ}{r:List rQ}{k:Int}(h:L.drop i=t::r) (D:L.length<=4000) (hk:t.1=9) (hf:fit t.2.1) (z:tM k t.2.1=true):EH s L (i:Int) (a,(0,())) k m=some (t.2.1,((i+1:Nat):Int),a,0):=by
 obtain⟨hi,j⟩:=vH h;unfold EH;have E:s4 (L.drop i)=9:=by rw[h];exact hk
 rw[vT,aM3,E,aM4 pO,aM4 (λ_=>rO hi),A1 hi,j hi,a3w _ _ hf,aM4 (λ_=>uH _),uB,z,aM9 pO,A2 h D hk];rfl
def aHa {k:Int}(hf: ∀t∈L,fit t.2.1) (h:s4 (L.drop i)≠9\/tM k (tV (L.drop i))=false): ∃a',EH s L (i:Int) (a,(0,())) k m=some ([],(i:Int),a',3):=by
 obtain⟨a',E⟩:=BH (s:=s) (L:=L) (i:=i) (a:=a) (m:=m) 3;unfold EH;rw[vT,aM3];by_cases z:s4 (L.drop i)=9
 .obtain⟨t,r,j,G⟩:=hd9 z;obtain⟨hi,D⟩:=vH j;have F:tM k t.2.1=false:=by
   rcases h with h|h
   .exact absurd z h
   rw[j] at h;exact h
  rw[z,aM4 pO,aM4 (λ_=>rO hi),A1 hi,D hi,a3w _ _ (hf t (by rw[<-D hi];exact aNc hi)),aM4 (λ_=>uH _),uB,F,aM4 pO,E];exact⟨a',rfl⟩
 have j:decide (s4 (L.drop i)=9)=false:=by simpa using z
 rw[j,aM9 pO,aM4 rfl,E];exact⟨a',rfl⟩
def aHb {k:Int}(j:e≠0):EH s L (i:Int) (a,(e,())) k m=some ([],(i:Int),a,e):=by
 unfold EH;rw[C9 j,aM3,aM9 pO,aM4 rfl,GH j];rfl
end
def vU:pI->Option pI
 |[]=>some []
 |[c]=>if uE c=true then none else some [c]
 |c::d::r=>if uE c=true then(if c=92/\uE d=true then(vU r).map (d:: ·) else none) else(vU (d::r)).map (c:: ·)
def UE (s:pI):pI:=(vU s).getD []
def xy: ∀s:pI,(vU s).isSome=decide (uK s=s.length)
 |[]=>rfl
 |[c]=>by
  unfold vU uK;cases uE c<;>simp
 |c::d::r=>by
  unfold vU uK;have E:=xy r;have D:=xy (d::r);by_cases z:uE c=true
  .rw[aM4 z,aM4 z];by_cases j:c=92/\uE d=true
   .rw[aM4 j,aM4 j,Option.isSome_map,E,aNv];simp
   rw[aM9 j,aM9 j];simp
  rw[aM9 z,aM9 z,Option.isSome_map,D,aNv];simp only[aM5,aNj];omega
def a3x {s:pI}{i:Nat}(h:i<s.length):vU (s.drop i)=if uE s[i]=true then(if s[i]=92/\DB (s.drop (i+1))=true then(vU (s.drop (i+2))).map (s.getD (i+1) 0:: ·) else none) else(vU (s.drop (i+1))).map (s[i]:: ·):=by
 rw[aNm h];by_cases j:i+1<s.length
 .rw[aNm j,vU];have e:s.getD (i+1) 0=s[i+1]:=by rw[aNy,aNe j];rfl
  rw[e];rfl
 rw[List.drop_eq_nil_of_le (show s.length<=i+1 by omega),vU];simp only[DB,aNJ,and_false,aOh];rfl
def xz: ∀(n:Nat) (s u:pI),s.length<=n->vU s=some u->u.length<=s.length
 |_,[],u,_,h=>by unfold vU at h;cases h;exact aNt _
 |n,[c],u,_,h=>by
  unfold vU at h;split at h
  .cases h
  .cases h;exact aNt _
 |0,_::_::_,_,j,_=>by simp at j
 |n+1,c::d::r,u,j,h=>by
  unfold vU at h;simp only[aM5] at j|-;split at h
  .split at h
   .obtain⟨v,hv,rfl⟩:=aNh.1 h;have:=xz n r v pM hv;simp only[aM5];omega
   cases h
  obtain⟨v,hv,rfl⟩:=aNh.1 h;have:=xz n (d::r) v aPc hv;simp only[aM5] at this|-;omega
def ya (s:pI) (M:fit s): ∀(n j:Nat) (b:pT) (u:pI),s.length<=j+n->j<=s.length->b.length<=j->vU (s.drop j)=some u->rC (OL s) ((j:Int),b)=some (b++tK u)
 |n,j,b,u,Q,R,hb,D=>by
  unfold fit at M;by_cases z:j<s.length
  .cases n with
   |zero=>omega
   |succ n=>
    rw[a3x z] at D;rw[tA];unfold OL;simp only;have I:=z7 z 92 pN;rw[show ((92:Nat):Int)=92 from rfl,show UInt8.ofNat 92=92 from rfl] at I;rw[aM4 (sI z),aM4 (rO z),I];by_cases K:s[j]=92
    .have E:uE s[j]=true:=by rw[K];rfl
     rw[aM4 E] at D;split at D
     .rename_i O;have F:j+1<s.length:=by
       by_cases F:j+1<s.length
       .exact F
       have:=O.2;rw[gd F] at this;cases this
      obtain⟨v,hv,rfl⟩:=aNh.1 D;have G:=wF F;rw[Int.natCast_add,Int.natCast_one] at G;rw[aM4 (aN6 K),aM4 (s7 pM),aM4 ⟨pM,pM⟩,XL pM,aM3,aM4 aPv,aM3];have:=ya s M n (j+2) (b++[qZ s ((j:Int)+1)]) v pM pM aPC hv;rw[show ((j+2:Nat):Int)=(j:Int)+1+1 by omega] at this;refine Eq.trans this ?_;rw[G,aNd];have e:s.getD (j+1) 0=s[j+1]:=by rw[aNy,aNe F];rfl
      rw[e];rfl
     cases D
    have E:uE s[j]=false:=by
     cases h:uE s[j] with
     |false=>rfl
     |true=>
      rw[aM4 h,aM9 (λO=>K O.1)] at D;cases D
    rw[E,aM9 pO] at D;obtain⟨v,hv,rfl⟩:=aNh.1 D;rw[aM9 (by simpa using K),aM4 (rO z),XL pM,aM3,aM4 (s7 pM),aM3,wF z];have:=ya s M n (j+1) (b++[(s[j].toNat:Int)]) v pM pM aPC hv;rw[show ((j+1:Nat):Int)=(j:Int)+1 by omega] at this;refine Eq.trans this ?_;rw[aNd];rfl
  have:j=s.length:=by omega
  subst this;rw[aNH,vU] at D;cases D;rw[tA];unfold OL;simp only;rw[aM9 (sO _)];show some b=some (b++[]);rw[List.append_nil]
end Go.Proofs.YtedimeeleabhnaaGreatDoor
