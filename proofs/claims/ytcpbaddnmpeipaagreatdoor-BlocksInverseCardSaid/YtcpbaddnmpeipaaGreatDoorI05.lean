import Derived.Deep.CondSized
import Derived.Deep.DeepHandedRow
import Derived.Deep.DeepWitnessRowRef
import Derived.Laws.BitsLemmas
import Derived.Lib.Index
import Derived.Lib.IndexAny
import Derived.Lib.LaidIn
import Derived.Lib.LaidTab
import Derived.Lib.LaidU8T
import Derived.Lib.MapLaws
import Derived.Lib.TrimAscii
import Derived.Lib.TrimUEq
import Derived.Lib.ValidLaws
import Derived.OpenShut
import Derived.ProofKit
import Derived.SizedLaws
import Derived.Sort.Walk0
import Derived.Test.YtcpbaddnmpeipaaGreatDoorRows
import Derived.WalkKit
import Derived.Test.YtcpbaddnmpeipaaGreatDoorI04
set_option linter.all false
set_option maxRecDepth 100000
set_option maxHeartbeats 4000000
namespace Go.Proofs.YtcpbaddnmpeipaaGreatDoor
open Vc List Lib
theorem vF {σ ρ:Type}(f:σ→Option (σ⊕ρ)) (x:σ):s8 f x=(f x).bind fun w=>match w with
    | .inl y=>s8 f y
    | .inr r=>some r:=by
  cases h:f x with
  | none=>
    cases z:s8 f x with
    |none=>rfl
    | some r=>
      obtain⟨n,j⟩:=XT z;cases n with
      |zero=>cases j
      |succ n=>unfold Vc.iter at j;rw[h] at j;cases j
  | some w=>
    cases w with
    |inl y=>exact I4 h
    |inr r=>exact z7 h
theorem EF {t:Ty}{l:List t.den}{i:Nat}(h:i<l.length):qR t l (i:Int)=l[i]:=by
  unfold qR;rw[aGz,aFV,aFG h];rfl
theorem IZ {l:pL}{i:Nat}(h:i<l.length):sE l (i:Int)=(l[i].toNat:Int):=by
  unfold sE;rw[aGz,aFV,aFG h];rfl
def zC {β:Type}(f:Nat→β) (b:β):pY→β
  |some k=>f k
  |none=>b
theorem Gk {α ρ:Type}{f:Int→Option (Int⊕(Unit⊕ρ))}{l:List α}(p:α→Bool) (g:Nat→ρ)
    (hf: ∀(i:Nat) (h:i<l.length),f i=if p l[i]=true then some (.inr (.inr (g i))) else some (.inl (i+1)))
    (D:f l.length=some (.inr (.inl ()))): ∀(n j:Nat),j+n=l.length→s8 f j=some (zC (fun k=> .inr (g (j+k))) (.inl ()) ((l.drop j).findIdx? p))
  | 0,j,E=>by
    have:j=l.length:=by omega
    subst this;rw[aGs,vF,D];rfl
  | n+1,j,E=>by
    have z:j<l.length:=by omega
    rw[vF,hf j z,aGb z,aHd];by_cases hp:p l[j]=true
    . rw[aFz hp,aFz hp]
      rfl
    rw[aFA hp,aFA hp]
    show s8 f ((j:Int)+1)=_;have:=Gk p g hf D n (j+1) pP;rw[show ((j:Int)+1)=((j+1:Nat):Int) by omega,this];cases(l.drop (j+1)).findIdx? p with
    |none=>rfl
    | some k=>
      show some (Sum.inr (g (j+1+k)))=some (Sum.inr (g (j+(k+1))));rw[show j+1+k=j+(k+1) by omega]
theorem J0 {α ρ:Type}{f:Int→Option (Int⊕(Unit⊕ρ))}{l:List α}(p:α→Bool) (g:Nat→ρ)
    (hf: ∀(i:Nat) (h:i<l.length),f i=if p l[i]=true then some (.inr (.inr (g i))) else some (.inl (i+1)))
    (j:f l.length=some (.inr (.inl ()))):s8 f 0=some (zC (fun k=> .inr (g k)) (.inl ()) (l.findIdx? p)):=by
  have:=Gk p g hf j l.length 0 pP;simpa using this
theorem a05 {s:pL}{i:Nat}(h:i<s.length) (z:s[i].toNat<128):xR s i=(s[i].toNat:Int)∧BB s i=i+1:=by
  have j:=decodeL_drop ⟨s.toArray⟩ i
  have D:(⟨s.toArray⟩:ByteArray).data.toList.drop i=s[i]::s.drop (i+1):=by
    show s.drop i=_;rw[aGb h]
  rw[D,decodeL_ascii _ _ z] at j;unfold xR BB fm;rw[←j,aFz h];exact⟨rfl,rfl⟩
theorem a9I {n b0 b1 b2 b3:Nat}(h:128≤b0):128≤(decodeN n b0 b1 b2 b3).1:=by
  unfold decodeN
  repeat' split
  all_goals first|omega|(dsimp only;omega)
theorem a06 {s:pL}{i:Nat}(h:i<s.length) (j:128≤s[i].toNat):128≤xR s i:=by
  unfold xR;rw[decode_at]
  have:(⟨s.toArray⟩:ByteArray).get! i=s[i]:=by
    show s.toArray[i]! =_;simp [h]
  rw[this];exact Int.ofNat_le.2 (a9I j)
theorem a07 {ρ:Type}{f:Nat→Option (Nat⊕(Unit⊕ρ))}{s:pL}(p:Int→Bool) (g:Nat→ρ) (hb: ∀c,128≤c→p c=true)
    (hf: ∀(i:Nat) (h:i<s.length),f i=if p (xR s i)=true then some (.inr (.inr (g i))) else some (.inl (BB s i)))
    (D:f s.length=some (.inr (.inl ()))): ∀(n j:Nat),j+n=s.length→s8 f j=some (zC (fun k=> .inr (g (j+k))) (.inl ()) ((s.drop j).findIdx? (fun b=>p b.toNat)))
  | 0,j,E=>by
    have:j=s.length:=by omega
    subst this;rw[aGs,vF,D];rfl
  | n+1,j,E=>by
    have z:j<s.length:=by omega
    rw[vF,hf j z,aGb z,aHd];by_cases F:s[j].toNat<128
    . obtain⟨e1,e2⟩:=a05 z F
      rw[e1,e2];by_cases hp:p (s[j].toNat:Int)=true
      . rw[aFz hp,aFz hp]
        rfl
      rw[aFA hp,aFA hp]
      show s8 f (j+1)=_;rw[a07 p g hb hf D n (j+1) pP];cases(s.drop (j+1)).findIdx? (fun b=>p b.toNat) with
      |none=>rfl
      | some k=>
        show some (Sum.inr (g (j+1+k)))=some (Sum.inr (g (j+(k+1))));rw[show j+1+k=j+(k+1) by omega]
    rw[aFz (hb _ (a06 z pP)),aFz (hb _ pP)]
    rfl
theorem a9J {ρ:Type}{f:Nat→Option (Nat⊕(Unit⊕ρ))}{s:pL}(p:Int→Bool) (g:Nat→ρ) (hb: ∀c,128≤c→p c=true)
    (hf: ∀(i:Nat) (h:i<s.length),f i=if p (xR s i)=true then some (.inr (.inr (g i))) else some (.inl (BB s i)))
    (j:f s.length=some (.inr (.inl ()))):s8 f 0=some (zC (fun k=> .inr (g k)) (.inl ()) (s.findIdx? (fun b=>p b.toNat))):=by
  have:=a07 p g hb hf j s.length 0 pP;simpa using this
def s9 {α:Type}(l:List α):Prop:=l.length≤4000000000
theorem vK {i:Nat}(h:i≤4000000000):qM ((i:Int)+1):=by unfold qM;omega
theorem tE {i n:Nat}(h:i<n):0≤(i:Int)∧(i:Int)<(n:Int):=⟨pP,pP⟩
theorem uX {i n:Nat}(h:i<n):decide ((i:Int)<(n:Int))=true:=by simpa using h
theorem wM (n:Nat): ¬decide ((n:Int)<(n:Int))=true:=by simp
theorem a08 {α:Type}{p:α→Bool}: ∀{l:List α},(l.findIdx? p).isSome=l.any p
  |[]=>rfl
  | x::l=>by
    rw[aHd,any_cons];cases p x with
    |true=>rfl
    |false=>simp [a08 (l:=l)]
theorem O1 {α β:Type}{p:α→Bool}{l:List α}{f:Nat→β}{b:β}:zC f b (l.findIdx? p)=if l.any p=true then f ((l.findIdx? p).getD 0) else b:=by
  rw[←a08];cases l.findIdx? p with
  |none=>rfl
  |some k=>rfl
def O2 (c:Int):Bool:=(((!((decide ((97:Int)≤c))&&(decide (c≤(122:Int)))))&&(!((decide ((48:Int)≤c))&&(decide (c≤(57:Int))))))&&(!decide (c=(45:Int))))&&((decide (c<(65:Int)))||(decide ((90:Int)<c)))
def wN (s:pL):Bool:= !(s.any fun b=>O2 b.toNat)&&((decide ((1:Int)≤(s.length:Int)))&&(decide ((s.length:Int)≤(40:Int))))
def ZP (c:Int):Bool:=((((decide (c<(97:Int)))||(decide ((122:Int)<c)))&&((decide (c<(65:Int)))||(decide ((90:Int)<c))))&&((decide (c<(48:Int)))||(decide ((57:Int)<c))))&&(!decide (c=(45:Int)))
theorem a9K (c:Int):ZP c=O2 c:=by
  unfold ZP O2;rw[aHi];simp;omega
theorem Gl (s:pL):D6 s=some (wN s):=by
  have h:=a9J (f:=SO s) (s:=s) (fun c=>ZP c) (fun _=>false) (fun c h=>by unfold ZP;simp;omega) (fun i h=>by
    unfold SO;rw[aFz (by simpa using h),aFz (by simpa using h)];rfl) (by
    unfold SO;rw[aFA pR])
  unfold D6;rw[h,O1];simp only[a9K];unfold wN;cases s.any fun b=>O2 b.toNat<;>rfl
def yP (c:Int):Bool:=((((!((decide ((97:Int)≤c))&&(decide (c≤(122:Int)))))&&(!((decide ((48:Int)≤c))&&(decide (c≤(57:Int))))))&&(!decide (c=(45:Int))))&&(!decide (c=(95:Int))))&&(!decide (c=(46:Int)))
def A4 (c:Int):Bool:=(decide ((97:Int)≤c))&&(decide (c≤(122:Int)))
def uU:pL→Bool
  |[]=>false
  |b::t=>(!decide (40<t.length+1)&&A4 b.toNat)&& !(t.any fun b=>yP b.toNat)
theorem a09 (s:pL): ∀(n j:Nat),j+n=s.length→s8 (PM s) j=some (if (s.drop j).any (fun b=>yP b.toNat)=true∨(j=0∧s≠[]∧A4 (s.getD 0 0).toNat=false) then .inr false else .inl ())
  | 0,j,M=>by
    have:j=s.length:=by omega
    subst this;rw[aGs,vF];unfold PM;rw[aFA pR];by_cases h0:s=[]
    .subst h0;simp
    . have:s.length≠0:=by simpa using h0
      simp [this]
  | n+1,j,M=>by
    have z:j<s.length:=by omega
    have ih:=a09 s n (j+1) pP;rw[vF,aGb z,any_cons]
    have E:PM s j=if (yP (s[j].toNat:Int)=true∨(j=0∧A4 (s[j].toNat:Int)=false)) then some (.inr (.inr false)) else some (.inl (j+1)):=by
      unfold PM;rw[aFz (by simpa using z),aFz (by simpa using z),aFz (by simpa using z)];by_cases O:s[j].toNat<128
      . obtain⟨e1,e2⟩:=a05 z O
        rw[e1,e2];by_cases D:A4 (s[j].toNat:Int)=true
        . rw[aFz (by unfold A4 at D;exact D),aFA]
          unfold A4 at D;simp only[aFL,aFI] at D;simp [yP,A4];omega
        have I:A4 (s[j].toNat:Int)=false:=by simpa using D
        rw[aFA (by unfold A4 at D;exact D)]
        have Q: ¬(97≤(s[j].toNat:Int)∧(s[j].toNat:Int)≤122):=by
          unfold A4 at D;simpa using D
        by_cases h3:yP (s[j].toNat:Int)=true∨j=0
        . rw[aFA,aFz]
          . rcases h3 with h3|h3
            .exact .inl h3
            exact .inr ⟨h3,I⟩
          simp [yP] at h3|-
          omega
        rw[aFz,aFA]
        . intro h
          rcases h with h|⟨h,_⟩
          .exact h3 (.inl h)
          exact h3 (.inr h)
        simp [yP] at h3|-
        omega
      have hb:=a06 z pP
      rw[aFA pS,aFA pS,aFz (.inl (by simp [yP];omega))]
    rw[E];have K:s.getD 0 0=s[0]'pP:=by simp [aFV,aFG (show 0<s.length by omega)]
    have F:s≠[]:=by intro h;subst h;simp at z
    by_cases hp:yP (s[j].toNat:Int)=true∨(j=0∧A4 (s[j].toNat:Int)=false)
    . rw[aFz hp,aFz]
      .rfl
      rcases hp with hp|⟨rfl,hp⟩
      .left;simp [hp]
      right;exact⟨rfl,F,by rw[K];exact hp⟩
    rw[aFA hp]
    show s8 _ (j+1)=_;rw[ih]
    have G:yP (s[j].toNat:Int)=false:=by
      cases h:yP (s[j].toNat:Int) with
      |true=>exact absurd (.inl h) hp
      |false=>rfl
    simp only[G,Bool.false_or];congr 2;apply propext;constructor
    . rintro(h|⟨h,_⟩)
      .exact .inl h
      omega
    rintro(h|⟨rfl,_,h⟩)
    .exact .inl h
    rw[K] at h
    exact absurd (.inr ⟨rfl,h⟩) hp
theorem ZQ (s:pL):D7 s=some (uU s):=by
  have h:=a09 s s.length 0 pP;unfold D7;rw[h,aGJ];cases s with
  |nil=>simp [uU,tN]
  | cons b t=>
    simp only[any_cons,getD_cons_zero,ne_eq,reduceCtorEq,not_false_eq_true,true_and,uU];cases j:A4 b.toNat with
    |false=>simp [tN]
    | true=>
      have z:yP b.toNat=false:=by
        unfold A4 at j;simp only[aFL,aFI] at j;simp [yP];omega
      simp only[z,Bool.false_or];cases t.any (fun b=>yP b.toNat) with
      |true=>simp [tN]
      | false=>
        simp only[aG2,false_or,and_false,aHG];show some (decide ((1:Int)≤((b::t).length:Int))&&decide (((b::t).length:Int)≤40))=_;congr 1;rw[aHi];simp only[aFF,aFL,aFI,aF2,aGd,Bool.not_false,and_true];omega
theorem TR {β:Type}{f:Nat→β}{b:β}{o:pY}:tN (some (zC (fun k=> .inr (f k)) (.inl ()) o)) (fun _=>some b)=some (zC f b o):=by
  cases o<;>rfl
theorem a9L (l:pM) (s:pL) (hl:s9 l):F4 l s=some (zC (fun k=>(k:Int)) (-1) (l.findIdx? fun x=>decide (s=x))):=by
  unfold s9 at hl
  have h:=J0 (f:=SU l s) (l:=l) (fun x=>decide (s=x)) (fun k=>(k:Int)) (fun i h=>by
    unfold SU;rw[aFz (uX h),aFz (tE h),EF (t:= .str) h,aFz (vK pP)]) (by
    unfold SU;rw[aFA (wM _)])
  unfold F4;rw[h,TR]
theorem a1a {α:Type}{p:α→Bool}{l:List α}:decide ((0:Int)≤zC (fun k=>(k:Int)) (-1) (l.findIdx? p))=l.any p:=by
  rw[O1];cases l.any p
  .rfl
  simp only[aHb,aFI];omega
def wO:pM:=[[110,101,119],[102,117,122,122,121],[116,114,97,110,115,108,97,116,101,100],[114,101,118,105,101,119,101,100],[111,98,115,111,108,101,116,101]]
def A5 (s:pL):Int:=zC (fun k=>(k:Int)) (-1) (wO.findIdx? fun x=>decide (x=s))
abbrev sX:=pL×pL×Unit
abbrev tF:Ty:= .pair .str (.pair .str .unit)
def yQ (l:List sX) (n:pL):pY:=l.findIdx? fun x=>decide (x.1=n)
def J1 (l:List sX) (n:pL):pL×Bool:=zC (fun k=>((l.getD k ([],[],())).2.1,true)) ([],false) (yQ l n)
theorem a9M (l:List sX) (n:pL):(J1 l n).2=l.any fun x=>decide (x.1=n):=by
  unfold J1 yQ;rw[O1];cases l.any fun x=>decide (x.1=n)<;>rfl
theorem a9N (l:List sX) (n:pL) (hl:s9 l):NM l n=some (zC (fun k=>(k:Int)) (-1) (yQ l n)):=by
  unfold s9 at hl
  have h:=J0 (f:=SY l n) (l:=l) (fun x=>decide (x.1=n)) (fun k=>(k:Int)) (fun i h=>by
    unfold SY;rw[aFz (uX h),aFz (tE h),EF (t:=tF) h,aFz (vK pP)]) (by
    unfold SY;rw[aFA (wM _)])
  unfold NM PT;rw[h,TR];rfl
theorem ZR {l:List sX}{n:pL}{k:Nat}(h:yQ l n=some k):k<l.length:=by
  unfold yQ at h;exact(aGE.1 h).1
theorem a9O (l:List sX) (n:pL) (hl:s9 l):KV l n=some (J1 l n):=by
  unfold KV;rw[a9N l n hl];unfold J1;cases h:yQ l n with
  |none=>rfl
  | some k=>
    have j:=ZR h;simp only[zC,aFC];rw[aFA pR,aFz (tE j),EF (t:=tF) j];simp only[zC,aFV,aFG j];rfl
def uV (l:List sX) (n:pL):Nat:=(l.findIdx? fun x=> !(Op.bytesLess x.1 n||decide (x.1=n))).getD l.length
def zD (l:List sX) (n v:pL):List sX:=zC (fun k=>l.set k (n,v,())) (l.take (uV l n)++[(n,v,())]++l.drop (uV l n)) (yQ l n)
theorem a9P (l:List sX) (n:pL):uV l n≤l.length:=by
  unfold uV;cases h:l.findIdx? fun x=> !(Op.bytesLess x.1 n||decide (x.1=n)) with
  |none=>exact aFW _
  |some k=>exact Nat.le_of_lt (aGE.1 h).1
theorem a9Q {l:List sX}{n:pL}{k:Nat}(h:yQ l n=some k) (j:k<l.length):l[k].1=n:=by
  unfold yQ at h;have:=(aGE.1 h).2.1;simpa using this
theorem a1b {α:Type}{l:List α}{k:Nat}:sL l 0 (k:Int)=l.take k:=by unfold sL;simp
theorem O3 {α:Type}{l:List α}{k:Nat}:sL l (k:Int) (l.length:Int)=l.drop k:=by
  unfold sL;rw[aGz,aGz,take_of_length_le];rw[aGa];exact aFW _
def B3 (n:Int):Prop:=0≤n∧n≤1114111∧(n<55296∨57343<n)
def yR (n:Int):Bool:=(((decide ((0:Int)≤n))&&(decide (n≤(1114111:Int))))&&((decide (n<(55296:Int)))||(decide ((57343:Int)<n))))
theorem L3 (n:Int):yR n=true↔B3 n:=by
  unfold yR B3;simp;omega
theorem ZS {n:Int}(h0:0≤n) (h:n≤127):encodeRune n=tG [n]:=by
  unfold encodeRune;rw[encodeRuneZ_one h0 h];rfl
theorem ZT {n:Int}(h0:128≤n) (h:n≤2047):encodeRune n=tG [192+n/64,128+n%64]:=by
  unfold encodeRune;rw[encodeRuneZ_two h0 h];rfl
theorem Gm {n:Int}(h:(2048≤n∧n<55296)∨(57343<n∧n≤65535)):encodeRune n=tG [224+n/4096,128+n/64%64,128+n%64]:=by
  unfold encodeRune;rw[encodeRuneZ_three h];rfl
theorem a1c {n:Int}(h0:65536≤n) (h:n≤1114111):encodeRune n=tG [240+n/262144,128+n/4096%64,128+n/64%64,128+n%64]:=by
  unfold encodeRune;rw[encodeRuneZ_four h0 h];rfl
theorem a1d {n:Int}(h:B3 n):EB n=some (encodeRune n):=by
  obtain⟨h0,z,j⟩:=h;have w1:IntKind.i64.wrap (n/64)=n/64:=by rw[aHo];omega
  have w2:IntKind.i64.wrap (n/4096)=n/4096:=by rw[aHo];omega
  have w3:IntKind.i64.wrap (n/262144)=n/262144:=by rw[aHo];omega
  have m1:Int.tmod n 64=n%64:=aHu h0;have m2:Int.tmod (n/64) 64=n/64%64:=aHu pP;have m3:Int.tmod (n/4096) 64=n/4096%64:=aHu pP;unfold EB;simp only[Int.tdiv_eq_ediv_of_nonneg h0,w1,w2,w3,m1,m2,m3,aHD];by_cases c1:n<128
  .rw[aFz (by simpa using c1),ZS h0 pP,show n%256=n by omega]
  rw[aFA (by simpa using c1)]
  by_cases c2:n<2048
  .rw[aFz (by simpa using c2),aFz (by unfold qM;omega),aFz (by unfold qM;omega),ZT pP pP,show (192+n/64) %256=192+n/64 by omega,show (128+n%64) %256=128+n%64 by omega]
  rw[aFA (by simpa using c2)]
  by_cases c3:n<65536
  .rw[aFz (by simpa using c3),aFz (by unfold qM;omega),aFz (by unfold qM;omega),aFz (by unfold qM;omega),Gm pP,show (224+n/4096) %256=224+n/4096 by omega,show (128+n/64%64) %256=128+n/64%64 by omega,show (128+n%64) %256=128+n%64 by omega]
  rw[aFA (by simpa using c3),aFz (by unfold qM;omega),aFz (by unfold qM;omega),aFz (by unfold qM;omega),aFz (by unfold qM;omega),a1c pP pP,show (240+n/262144) %256=240+n/262144 by omega,show (128+n/4096%64) %256=128+n/4096%64 by omega,show (128+n/64%64) %256=128+n/64%64 by omega,show (128+n%64) %256=128+n%64 by omega]
theorem Gn {n:Int}{k:Int}{j:Nat}(z:k.toNat=j) (h:j≤32):yV .i32 n k=n/2^j:=by
  unfold yV;rw[z,show min j IntKind.i32.bits=j from Nat.min_eq_left h,Int.fdiv_eq_ediv_of_nonneg];exact Int.pow_nonneg pQ
theorem a9R {n:Int}(p:pV) (h:B3 n) (hp:s9 p):KS p n=some (p++encodeRuneZ n):=by
  obtain⟨h0,D,E⟩:=h;unfold s9 at hp;have u:IntKind.u32.wrap n=n:=by rw[IntKind.wrap_u32];omega
  have s6:yV .i32 n 6=n/64:=Gn (j:=6) rfl pQ;have s12:yV .i32 n 12=n/4096:=Gn (j:=12) rfl pQ;have s18:yV .i32 n 18=n/262144:=Gn (j:=18) rfl pQ
  have b0:bits .or .u8 128 (bits .and .u8 (n%256) 63)=128+n%64:=by
    rw[u8_and63 (x:=n%256) pP pP,show n%256%64=n%64 by omega,u8_or128 (y:=n%64) pP pP]
  have b1:bits .or .u8 128 (bits .and .u8 (n/64%256) 63)=128+n/64%64:=by
    rw[u8_and63 (x:=n/64%256) pP pP,show n/64%256%64=n/64%64 by omega,u8_or128 (y:=n/64%64) pP pP]
  have b2:bits .or .u8 128 (bits .and .u8 (n/4096%256) 63)=128+n/4096%64:=by
    rw[u8_and63 (x:=n/4096%256) pP pP,show n/4096%256%64=n/4096%64 by omega,u8_or128 (y:=n/4096%64) pP pP]
  unfold KS;rw[u];by_cases c1:n≤127
  .rw[aFz (by simpa using c1),aFz pS,encodeRuneZ_one h0 c1,aHD,show n%256=n by omega]
  rw[aFA (by simpa using c1)]
  unfold N8;simp only[u,s6,s12,s18,aHD,b0,b1,b2];by_cases c2:n≤2047
  . rw[aFz (by simpa using c2),aFz pS,encodeRuneZ_two pP c2,show n/64%256=n/64 by omega,u8_or192 (y:=n/64) pP pP]
    rfl
  rw[aFA (by simpa using c2)]
  by_cases c3:n≤65535
  . have z:(if decide (n<55296)=true then some (decide (n<55296)) else some ((decide (57343<n))&&(decide (n≤65535))))=some true:=by
      by_cases c:n<55296
      .rw[aFz (by simpa using c)];simp [c]
      rw[aFA (by simpa using c)];simp;omega
    rw[z];simp only[uO,aFC];rw[aFz trivial,aFz pS,encodeRuneZ_three pP,show n/4096%256=n/4096 by omega,u8_or224 (y:=n/4096) pP pP];rfl
  have z:(if decide (n<55296)=true then some (decide (n<55296)) else some ((decide (57343<n))&&(decide (n≤65535))))=some false:=by
    rw[aFA pS];simp;omega
  rw[z];simp only[uO,aFC];rw[aFA pQ,aFz pS,aFz pS,encodeRuneZ_four pP D,show n/262144%256=n/262144 by omega,u8_or240 (y:=n/262144) pP pP];rfl
theorem a1e (n:Int):(encodeRuneZ n).length≤4:=by
  unfold encodeRuneZ
  repeat' split
  all_goals simp
theorem a1f {n:Int}(p:pV) (h:B3 n) (hp:s9 p): ∃k,GV (p,()) n=some (k,p++encodeRuneZ n):=by
  have h4:=a1e n;unfold s9 at hp;unfold GV;rw[a9R p h hp];simp only[aFC];rw[aFz (by unfold qM;simp;omega)];exact⟨_,rfl⟩
theorem a9S (n:Int):TK [n] (0,[])=some (.inl (1,if yR n=true then encodeRuneZ n else encodeRuneZ 65533)):=by
  unfold TK;have D:qR (.int .i64) [n] 0=n:=rfl;dsimp only;rw[aFz pR,aFz ⟨aGI _,by simp⟩];simp only[D];by_cases h:yR n=true
  . have j:=(L3 n).1 h
    obtain⟨k,z⟩:=a1f (n:=n) [] j (by unfold s9;simp)
    have wn:IntKind.i32.wrap n=n:=by
      obtain⟨a,b,c⟩:=j;rw[IntKind.wrap_i32];omega
    rw[aFz h];unfold yR at h;rw[aFA (by rw[h];decide),wn,z];simp only[aFC,nil_append];rw[aFz (by unfold qM;omega)];rfl
  rw[aFA h]
  unfold yR at h;obtain⟨k,z⟩:=a1f (n:=65533) [] (by unfold B3;omega) (by unfold s9;simp);rw[aFz (by simp only[aF2] at h|-;simpa using h),show IntKind.i32.wrap 65533=65533 from rfl,z];simp only[aFC,nil_append];rw[aFz (by unfold qM;omega)];rfl
theorem a9T (n:Int):L1 n=some (if yR n=true then encodeRune n else encodeRune 65533):=by
  unfold L1 Q6;rw[I4 (a9S n),z7 (r:=if yR n=true then encodeRuneZ n else encodeRuneZ 65533) (by unfold TK;simp)];simp only[uO,aFC];by_cases h:yR n=true
  .rw[aFz h,aFz h];rfl
  rw[aFA h,aFA h];rfl
theorem a1g {l:pL}{i:Nat}(h:i<l.length):sE l (i:Int)=((l.getD i 0).toNat:Int):=by
  rw[IZ h,aFV,aFG h];rfl
theorem a9U {s:pL}{x n:Int}{i:Nat}(h:i<s.length) (D:(i:Int)<n) (F:0≤x) (E:x≤1000000) (hi:i≤10):F1 s n (x,(i:Int))=
    if (s.getD i 0).toNat/64=2 then some (.inl (64*x+(s.getD i 0).toNat-128,((i+1:Nat):Int))) else some (.inr (.inr (65533,1))):=by
  have hb:=(s.getD i 0).toNat_lt;have j:=a1g h;generalize (s.getD i 0).toNat=B at hb j|-;unfold F1;dsimp only;rw[aFz (by simpa using D),aFz (tE h),aFz (fun _=>tE h),j];by_cases z:B/64=2
  . rw[aFA pS,aFz z,aFz (by unfold qM;omega),aFz (tE h),show IntKind.i64.wrap (B:Int)=(B:Int) by rw[aHo];omega,
      aFz (by unfold qM;omega),aFz (by unfold qM;omega),aFz (by unfold qM;omega)]
    rfl
  rw[aFz pS,aFA z]
theorem Gp {s:pL}{x n i:Int}(h:n≤i):F1 s n (x,i)=some (.inr (.inl x)):=by
  unfold F1;dsimp only;rw[aFA (by simpa using h)]
def cont (s:pL) (i:Nat):Bool:=decide ((s.getD i 0).toNat/64=2)
def zE (s:pL) (i:Nat) (x:Int):Int:=64*x+(s.getD i 0).toNat-128
theorem Gq {s:pL}{i:Nat}{x m:Int}(h0:0≤x) (hm:x≤m) (h:cont s i=true):0≤zE s i x∧zE s i x≤64*m+63:=by
  have hb:=(s.getD i 0).toNat_lt;unfold cont at h;unfold zE;simp only[aFI] at h;omega
theorem QE {s:pL}{x n:Int}{i:Nat}(h:i<s.length) (E:(i:Int)<n) (D:0≤x) (z:x≤1000000) (hi:i≤10):
    s8 (F1 s n) (x,(i:Int))=if cont s i=true then s8 (F1 s n) (zE s i x,((i+1:Nat):Int)) else some (.inr (65533,1)):=by
  rw[vF,a9U h E D z hi];unfold cont zE;simp only[aFI];by_cases j:(s.getD i 0).toNat/64=2
  .rw[aFz j,aFz j];rfl
  rw[aFA j,aFA j];rfl
theorem a9V {s:pL}{x:Int}(h:1<s.length) (j:0≤x) (z:x≤31):s8 (F1 s 2) (x,1)=some (if cont s 1=true then .inl (zE s 1 x) else .inr (65533,1)):=by
  show s8 _ (x,((1:Nat):Int))=_;rw[QE h pQ j pP pQ];by_cases c1:cont s 1=true
  .rw[aFz c1,aFz c1,z7 (Gp pQ)]
  rw[aFA c1,aFA c1]
theorem a9W {s:pL}{x:Int}(h:2<s.length) (z:0≤x) (j:x≤15):s8 (F1 s 3) (x,1)=some (if (cont s 1&&cont s 2)=true then .inl (zE s 2 (zE s 1 x)) else .inr (65533,1)):=by
  show s8 _ (x,((1:Nat):Int))=_;rw[QE pP pQ z pP pQ];by_cases c1:cont s 1=true
  . have b1:=Gq z j c1
    rw[aFz c1,QE h pQ b1.1 pP pQ,c1,Bool.true_and];by_cases c2:cont s 2=true
    .rw[aFz c2,aFz c2,z7 (Gp pQ)]
    rw[aFA c2,aFA c2]
  rw[aFA c1,aFA (by simp [c1])]
theorem a9X {s:pL}{x:Int}(h:3<s.length) (z:0≤x) (j:x≤7):s8 (F1 s 4) (x,1)=some (if (cont s 1&&cont s 2&&cont s 3)=true then .inl (zE s 3 (zE s 2 (zE s 1 x))) else .inr (65533,1)):=by
  show s8 _ (x,((1:Nat):Int))=_;rw[QE pP pQ z pP pQ];by_cases c1:cont s 1=true
  . have b1:=Gq z j c1
    rw[aFz c1,QE pP pQ b1.1 pP pQ,c1,Bool.true_and];by_cases c2:cont s 2=true
    . have b2:=Gq b1.1 b1.2 c2
      rw[aFz c2,QE h pQ b2.1 pP pQ,c2,Bool.true_and];by_cases c3:cont s 3=true
      .rw[aFz c3,aFz c3,z7 (Gp pQ)]
      rw[aFA c3,aFA c3]
    rw[aFA c2,aFA (by simp [c2])]
  rw[aFA c1,aFA (by simp [c1])]
def fin (s:pL) (x:Int) (n:Nat):Int×Int:=if yR x=true∧encodeRune x=s.take n then(x,n) else(65533,1)
theorem Gr {s:pL}{x:Int}{n:Nat}(E:n≤s.length):
    (if (((!(((decide ((0:Int)≤x))&&(decide (x≤(1114111:Int))))&&((decide (x<(55296:Int)))||(decide ((57343:Int)<x)))))==false)=true→((EB x)).isSome=true) then
    if (((!(((decide ((0:Int)≤x))&&(decide (x≤(1114111:Int))))&&((decide (x<(55296:Int)))||(decide ((57343:Int)<x)))))==false)=true→0≤(0:Int)∧(0:Int)≤(n:Int)∧(n:Int)≤(s.length:Int)) then
     if ((!(((decide ((0:Int)≤x))&&(decide (x≤(1114111:Int))))&&((decide (x<(55296:Int)))||(decide ((57343:Int)<x)))))||(!decide ((val (EB x))=(sL s (0:Int) (n:Int)))))=true then
      some (((65533:Int),(1:Int)))
     else
      some ((x,(n:Int)))
    else none
   else none)=some (fin s x n):=by
  rw[a1b];simp only[show (((decide ((0:Int)≤x))&&(decide (x≤(1114111:Int))))&&((decide (x<(55296:Int)))||(decide ((57343:Int)<x))))=yR x from rfl]
  unfold fin;by_cases z:yR x=true
  . have ho:=a1d ((L3 x).1 z)
    rw[aFz (fun _=>by rw[ho];rfl),aFz (fun _=>⟨aGI _,pP,pP⟩),ho,z];by_cases D:encodeRune x=s.take n
    .rw[aFA (by simp [val,D]),aFz ⟨rfl,D⟩]
    rw[aFz (by simp [val,D]),aFA (fun h=>D h.2)]
  have j:yR x=false:=by simpa using z
  rw[aFz (fun h=>by simp [j] at h),aFz (fun h=>by simp [j] at h),aFz (by simp [j]),aFA (fun h=>z h.1)]
theorem J2 (z:Int) (l:pV) (x:UInt8) (h:z=(x.toNat:Int)):tG (z::l)=x::tG l:=by
  show UInt8.ofNat z.toNat::tG l=_;rw[h];simp
theorem Gs:tG []=[]:=rfl
theorem QF (l:pV):(tG l).length=l.length:=by simp [tG]
theorem a9Y {s:pL}(hl:1<s.length) (h0:192≤(s.getD 0 0).toNat) (G:(s.getD 0 0).toNat<224) (j:cont s 1=true):
    fin s (zE s 1 ((s.getD 0 0).toNat-192)) 2=(((decodeL s).1:Int),((decodeL s).2:Int)):=by
  unfold cont at j;simp only[aFI] at j;have k0:=(s.getD 0 0).toNat_lt;have k1:=(s.getD 1 0).toNat_lt
  have F:decodeL s=if (s.getD 0 0).toNat%32*64+(s.getD 1 0).toNat%64≥128 then((s.getD 0 0).toNat%32*64+(s.getD 1 0).toNat%64,2) else(65533,1):=by
    rw[decodeL_N];unfold decodeN;rw[aFA pP,aFz ⟨pP,pP,j⟩]
  rw[F];unfold fin zE;rw[takeB s hl];have E:yR (64*((s.getD 0 0).toNat-192)+(s.getD 1 0).toNat-128)=true:=(L3 _).2 (by unfold B3;omega);rw[E];by_cases z:(s.getD 0 0).toNat%32*64+(s.getD 1 0).toNat%64≥128
  . rw[aFz z,aFz ⟨rfl,by
      rw[ZT pP pP,J2 _ _ (s.getD 0 0) pP,J2 _ _ (s.getD 1 0) pP,Gs]⟩]
    exact Prod.ext (by show _=(((_:Nat)):Int);omega) rfl
  rw[aFA z,aFA (fun h=>by
    have D:=aFZ List.length h.2;rw[ZS pP pP,QF] at D;simp at D)]
  rfl
theorem a9Z {s:pL}(hl:2<s.length) (h0:224≤(s.getD 0 0).toNat) (Q:(s.getD 0 0).toNat<240) (D:cont s 1=true) (j:cont s 2=true):
    fin s (zE s 2 (zE s 1 ((s.getD 0 0).toNat-224))) 3=(((decodeL s).1:Int),((decodeL s).2:Int)):=by
  unfold cont at D j;simp only[aFI] at D j;have k0:=(s.getD 0 0).toNat_lt;have k1:=(s.getD 1 0).toNat_lt;have k2:=(s.getD 2 0).toNat_lt;obtain⟨V,K⟩: ∃V,(s.getD 0 0).toNat%16*4096+(s.getD 1 0).toNat%64*64+(s.getD 2 0).toNat%64=V:=⟨_,rfl⟩
  have I:decodeL s=if V≥2048∧(V<55296∨(57344≤V∧V≤1114111)) then(V,3) else(65533,1):=by
    rw[decodeL_N];unfold decodeN;rw[aFA pP,aFA pP,aFz ⟨pP,⟨pP,D⟩,pP,j⟩,K]
  rw[I];unfold fin zE;rw[takeC s hl];generalize R:64*(64*(((s.getD 0 0).toNat:Int)-224)+(s.getD 1 0).toNat-128)+(s.getD 2 0).toNat-128=X;have E:X=(V:Int):=by omega
  by_cases F:V≥2048∧(V<55296∨(57344≤V∧V≤1114111))
  . rw[aFz F,aFz ⟨(L3 _).2 (by unfold B3;omega),by
      rw[Gm pP,J2 _ _ (s.getD 0 0) pP,J2 _ _ (s.getD 1 0) pP,J2 _ _ (s.getD 2 0) pP,Gs]⟩]
    exact Prod.ext E rfl
  rw[aFA F,aFA (fun h=>by
    have G:=(L3 _).1 h.1;unfold B3 at G;have O:X<2048:=by omega
    have z:=aFZ List.length h.2;by_cases M:X≤127
    .rw[ZS pP M,QF] at z;simp at z
    rw[ZT pP pP,QF] at z;simp at z)]
  rfl
theorem a90 {s:pL}(hl:3<s.length) (h0:240≤(s.getD 0 0).toNat) (R:(s.getD 0 0).toNat<248) (E:cont s 1=true) (z:cont s 2=true) (j:cont s 3=true):
    fin s (zE s 3 (zE s 2 (zE s 1 ((s.getD 0 0).toNat-240)))) 4=(((decodeL s).1:Int),((decodeL s).2:Int)):=by
  unfold cont at E z j;simp only[aFI] at E z j;have k0:=(s.getD 0 0).toNat_lt;have k1:=(s.getD 1 0).toNat_lt;have k2:=(s.getD 2 0).toNat_lt;have k3:=(s.getD 3 0).toNat_lt;obtain⟨V,M⟩: ∃V,(s.getD 0 0).toNat%8*262144+(s.getD 1 0).toNat%64*4096+(s.getD 2 0).toNat%64*64+(s.getD 3 0).toNat%64=V:=⟨_,rfl⟩
  have K:decodeL s=if V≥65536∧(V<55296∨(57344≤V∧V≤1114111)) then(V,4) else(65533,1):=by
    rw[decodeL_N];unfold decodeN;rw[aFA pP,aFA pP,aFA pP,aFz ⟨pP,⟨pP,E⟩,⟨pP,z⟩,pP,j⟩,M]
  rw[K];unfold fin zE;rw[takeD s hl];generalize U:64*(64*(64*(((s.getD 0 0).toNat:Int)-240)+(s.getD 1 0).toNat-128)+(s.getD 2 0).toNat-128)+(s.getD 3 0).toNat-128=X;have F:X=(V:Int):=by omega
  by_cases G:V≥65536∧(V<55296∨(57344≤V∧V≤1114111))
  . rw[aFz G,aFz ⟨(L3 _).2 (by unfold B3;omega),by
      rw[a1c pP pP,J2 _ _ (s.getD 0 0) pP,J2 _ _ (s.getD 1 0) pP,J2 _ _ (s.getD 2 0) pP,J2 _ _ (s.getD 3 0) pP,Gs]⟩]
    exact Prod.ext F rfl
  rw[aFA G,aFA (fun h=>by
    have I:=(L3 _).1 h.1;unfold B3 at I;have Q:X<65536:=by omega
    have D:=aFZ List.length h.2;by_cases O:X≤127
    .rw[ZS pP O,QF] at D;simp at D
    by_cases Y:X≤2047
    .rw[ZT pP pP,QF] at D;simp at D
    rw[Gm pP,QF] at D;simp at D)]
  rfl
theorem O4 {s:pL}(h: ¬(s.getD 0 0).toNat<128) (j: ¬((s.getD 0 0).toNat/32=6∧1<s.length∧cont s 1=true)) (h3: ¬((s.getD 0 0).toNat/16=14∧2<s.length∧(cont s 1&&cont s 2)=true))
    (h4: ¬((s.getD 0 0).toNat/8=30∧3<s.length∧(cont s 1&&cont s 2&&cont s 3)=true)):decodeL s=(65533,1):=by
  unfold cont at j h3 h4;simp only[aFL,aFI] at j h3 h4;rw[decodeL_N];unfold decodeN;rw[aFA h,aFA (fun⟨a,b,c⟩=>j ⟨a,b,c⟩),aFA (fun⟨a,⟨b,c⟩,d,e⟩=>h3 ⟨a,d,c,e⟩),aFA (fun⟨a,⟨b,c⟩,⟨d,e⟩,f,g⟩=>h4 ⟨a,f,⟨c,e⟩,g⟩)]
theorem a91 {s:pL}(E:s≠[]):KH s=some (((decodeL s).1:Int),((decodeL s).2:Int)):=by
  have hl:0<s.length:=aGH.2 E;have F:sE s 0=((s.getD 0 0).toNat:Int):=a1g (i:=0) hl;have k0:=(s.getD 0 0).toNat_lt;have hw:IntKind.i64.wrap ((s.getD 0 0).toNat:Int)=((s.getD 0 0).toNat:Int):=by rw[aHo];omega
  unfold KH;rw[aFz ⟨aGI _,pP⟩,F,hw];by_cases c1:(s.getD 0 0).toNat<128
  . rw[aFz (by simp only[aFI];omega)]
    rw[decodeL_N];unfold decodeN;rw[aFz c1];rfl
  rw[aFA (by simp only[aFI];omega)]
  by_cases c2:192≤(s.getD 0 0).toNat∧(s.getD 0 0).toNat<224
  . rw[aFz (by simp only[aFL,aFI];omega),aFz (by unfold qM;omega)]
    show (if decide ((s.length:Int)<2)=true then _ else _)=_;by_cases l2:1<s.length
    . rw[aFA (by simp only[aFI];omega),a9V l2 pP pP]
      by_cases j:cont s 1=true
      . rw[aFz j,←a9Y l2 c2.1 c2.2 j,←Gr (s:=s) (n:=2) pP]
        rfl
      rw[aFA j,O4 c1 (fun h=>j h.2.2) (fun h=>by omega) (fun h=>by omega)]
      rfl
    rw[aFz (by simp only[aFI];omega),O4 c1 (fun h=>l2 h.2.1) (fun h=>by omega) (fun h=>by omega)]
    rfl
  rw[aFA (by simp only[aFL,aFI];omega)]
  by_cases c3:224≤(s.getD 0 0).toNat∧(s.getD 0 0).toNat<240
  . rw[aFz (by simp only[aFL,aFI];omega),aFz (by unfold qM;omega)]
    show (if decide ((s.length:Int)<3)=true then _ else _)=_;by_cases l2:2<s.length
    . rw[aFA (by simp only[aFI];omega),a9W l2 pP pP]
      by_cases j:(cont s 1&&cont s 2)=true
      . have z:=aFL _ _▸j
        rw[aFz j,←a9Z l2 c3.1 c3.2 z.1 z.2,←Gr (s:=s) (n:=3) pP];rfl
      rw[aFA j,O4 c1 (fun h=>by omega) (fun h=>j h.2.2) (fun h=>by omega)]
      rfl
    rw[aFz (by simp only[aFI];omega),O4 c1 (fun h=>by omega) (fun h=>l2 h.2.1) (fun h=>by omega)]
    rfl
  rw[aFA (by simp only[aFL,aFI];omega)]
  by_cases c4:240≤(s.getD 0 0).toNat∧(s.getD 0 0).toNat<248
  . rw[aFz (by simp only[aFL,aFI];omega),aFz (by unfold qM;omega)]
    show (if decide ((s.length:Int)<4)=true then _ else _)=_;by_cases l2:3<s.length
    . rw[aFA (by simp only[aFI];omega),a9X l2 pP pP]
      by_cases j:(cont s 1&&cont s 2&&cont s 3)=true
      . have z:=aFL _ _▸j
        have D:=aFL _ _▸z.1;rw[aFz j,←a90 l2 c4.1 c4.2 D.1 D.2 z.2,←Gr (s:=s) (n:=4) pP];rfl
      rw[aFA j,O4 c1 (fun h=>by omega) (fun h=>by omega) (fun h=>j h.2.2)]
      rfl
    rw[aFz (by simp only[aFI];omega),O4 c1 (fun h=>by omega) (fun h=>by omega) (fun h=>l2 h.2.1)]
    rfl
  rw[aFA (by simp only[aFL,aFI];omega),O4 c1 (fun h=>by omega) (fun h=>by omega) (fun h=>by omega)]
  rfl
def A6:Nat→pL→pV
  |0,_=>[]
  |n+1,s=>if s=[] then[] else((decodeL s).1:Int)::A6 n (s.drop (decodeL s).2)
theorem a1h: ∀(n:Nat) (s:pL),(A6 n s).length≤n
  |0,_=>aFW _
  | n+1,s=>by
    unfold A6;split
    .simp
    simp only[aFF]
    have:=a1h n (s.drop (decodeL s).2);omega
theorem a92 (s:pL):B3 ((decodeL s).1:Int):=by
  have k0:=(s.getD 0 0).toNat_lt;rw[decodeL_N];rcases decodeN_shape s.length (s.getD 0 0).toNat (s.getD 1 0).toNat (s.getD 2 0).toNat (s.getD 3 0).toNat with⟨c,e⟩ |⟨c1,c2,c3,cv,e⟩ |⟨c1,c2,c3,c4,cv,cs,e⟩ |⟨c1,c2,c3,c4,c5,cv,cw,e⟩ |e
  all_goals (rw[e];unfold B3;dsimp only;omega)
theorem a1i: ∀(n:Nat) (s:pL) (out:pV),s.length≤n→out.length+s.length≤4000000000→s8 Q1 (s,out)=some (out++A6 n s)
  | n,[],out,_,_=>by
    rw[z7 (r:=out) (by unfold Q1;simp)];cases n<;>simp [A6]
  |0,b::t,_,h,_=>by simp at h
  | n+1,b::t,out,h,ho=>by
    have j:(b::t)≠[]:=by simp
    have D:=decodeL_le (b::t) j;have hw:=decodeL_width (b::t)
    have z:Q1 (b::t,out)=some (.inl ((b::t).drop (decodeL (b::t)).2,out++[((decodeL (b::t)).1:Int)])):=by
      unfold Q1;dsimp only;rw[aFz pR,a91 j];simp only[aFC];rw[aFz (by simp only[aFF,aFS] at ho|-;omega),aFz ⟨pP,pP,aGI _⟩,O3]
    rw[I4 z,a1i n _ _ (by rw[aGa];simp only[aFF] at h D|-;omega) (by rw[aGa,aFD];simp only[aFF,aFS] at ho D|-;omega)];rw[show A6 (n+1) (b::t)=((decodeL (b::t)).1:Int)::A6 n ((b::t).drop (decodeL (b::t)).2) by rw[A6,aFA j],aFO];rfl
def ZU (s:pL):pV:=A6 s.length s
theorem a93 (s:pL) (h:s9 s):KO s=some (ZU s):=by
  unfold s9 at h;unfold KO;rw[a1i s.length s [] (aFW _) (by simpa using h)];rfl
theorem a1j: ∀(n:Nat) (s:pL),∀x∈A6 n s,B3 x
  |0,_,_,h=>by cases h
  | n+1,s,x,h=>by
    unfold A6 at h;split at h
    .cases h
    rcases aFN.1 h with h|h
    .rw[h];exact a92 s
    exact a1j n _ x h
def L4 (l:pV):pL:=(l.map encodeRune).flatten
theorem Gt (n:Int):(encodeRune n).length≤4:=by
  unfold encodeRune;rw[aG0];exact a1e n
theorem a1k (l:pV) (D: ∀x∈l,B3 x) (hl:s9 l): ∀(n j:Nat) (s:pL),j+n=l.length→s.length+4*n≤10000000000000→s8 (PZ l) (s,(j:Int))=some (s++L4 (l.drop j))
  | 0,j,s,F,_=>by
    have:j=l.length:=by omega
    subst this;rw[z7 (r:=s) (by unfold PZ;simp),aGs];simp [L4]
  | n+1,j,s,F,G=>by
    have h:j<l.length:=by omega
    unfold s9 at hl;have E:=D l[j] (aGp h);have h4:=Gt l[j]
    have z:PZ l (s,(j:Int))=some (.inl (s++encodeRune l[j],((j+1:Nat):Int))):=by
      unfold PZ;dsimp only;rw[aFz (uX h),aFz (tE h),EF (t:= .int .i64) h];have hb:=(L3 l[j]).2 E;unfold yR at hb;rw[aFz hb,aFz (tE h),a1d E];simp only[aFC];rw[aFz (by rw[aFD];omega),aFz (vK pP)];rfl
    rw[I4 z,a1k l D hl n (j+1) _ pP (by rw[aFD];omega),aGb h,aFO];rfl
theorem a94 (l:pV) (h: ∀x∈l,B3 x) (hl:s9 l):NI l=some (L4 l):=by
  have j:=hl;unfold s9 at j;unfold NI;rw[show ((0:Int))=((0:Nat):Int) from rfl,a1k l h hl l.length 0 [] pP pS];rfl
theorem a1l: ∀(n:Nat) (s:pL),s.length≤n→s.length≤(L4 (A6 n s)).length∧(L4 (A6 n s)=s↔validD s=true)
  | n,[],_=>by
    have:A6 n []=[]:=by cases n<;>simp [A6]
    rw[this];simp [L4,validD_nil]
  |0,b::t,h=>by simp at h
  | n+1,b::t,h=>by
    have j:(b::t)≠[]:=by simp
    have F:=decodeL_le (b::t) j;have hw:=decodeL_width (b::t);obtain⟨ih1,ih2⟩:=a1l n ((b::t).drop (decodeL (b::t)).2) (by rw[aGa];simp only[aFF] at h|-;omega)
    have hr:L4 (A6 (n+1) (b::t))=encodeRune ((decodeL (b::t)).1:Int)++L4 (A6 n ((b::t).drop (decodeL (b::t)).2)):=by
      rw[A6,aFA j];rfl
    rw[hr,validD_step _ j];rw[aGa] at ih1;by_cases z:(decodeL (b::t)).1=65533∧(decodeL (b::t)).2=1
    . rw[aFz z,z.1]
      have e3:(encodeRune ((65533:Nat):Int)).length=3:=rfl;rw[z.2] at ih1|-;refine⟨by rw[aFD,e3];omega,fun D=>?_,fun D=>by cases D⟩;have:=aFZ List.length D;rw[aFD,e3] at this;omega
    have D:=encode_decode (b::t) j z
    rw[aFA z,D];refine⟨by rw[aFD,aGh];omega,?_⟩;rw[←ih2];constructor
    . intro E
      exact append_cancel_left (E.trans (aGZ _ _).symm)
    intro E
    rw[E,aGZ]
theorem a95 (s:pL) (j:s9 s):uR s=some (validD s):=by
  have hl:s9 (ZU s):=by
    have:=a1h s.length s;unfold s9 ZU at*;omega
  unfold uR;rw[a93 s j];simp only[aFC];rw[a94 (ZU s) (fun x h=>a1j _ _ x h) hl];simp only[aFC];congr 1;have:=(a1l s.length s (aFW _)).2;rw[aHi,aFI];exact this
def sU (s:pL):Bool:=decide ((s.length:Int)≤4000)&&validD s
theorem TS (s:pL) (h:s9 s):GU s=some ()∧((decide ((s.length:Int)≤4000))&&val (uR s))=sU s:=by
  unfold GU;rw[a95 s h];exact⟨aFz (fun _=>rfl),rfl⟩
theorem O5 (s:pL) (h:s9 s):EC s=some ():=by
  unfold s9 at h;unfold EC SQ;rw[aFz (fun _=>by rw[aFz pP];rfl)]
theorem Gu (a b:pL):(!Op.bytesLess a b)=(Op.bytesLess b a||decide (b=a)):=by
  rw[bytesLess_eq,bytesLess_eq,aHi];simp only[aF2,aGd,aGU,aFI];constructor
  . intro h
    exact(List.le_iff_lt_or_eq.1 (List.not_lt.1 h))
  rintro(h|h)
  .exact List.lt_asymm h
  rw[h];exact List.lt_irrefl _
def w8 (l:pM):Bool:=decide ((l.length:Int)≤20)&& !(l.any fun x=> !sU x)
def TT (l:pM) (i:Nat):Bool:=(!uU (l.getD i []))||(decide (0<i)&& !Op.bytesLess (l.getD (i-1) []) (l.getD i []))
def CJ (l:pM):Bool:= !((List.range l.length).any (TT l))&&decide ((l.length:Int)≤20)
abbrev fD:sX:=([],([],()))
def TU (l:List sX) (i:Nat):Bool:=((!uU (l.getD i fD).1)||(!sU (l.getD i fD).2.1))||(decide (0<i)&& !Op.bytesLess (l.getD (i-1) fD).1 (l.getD i fD).1)
def vQ (l:List sX):Bool:= !((List.range l.length).any (TU l))&&decide ((l.length:Int)≤20)
abbrev tT:=sN
def zF (x:tT):Bool:=
  (((((((!decide (x.1=[]))&&decide ((x.1.length:Int)≤200))&&sU x.1)&&sU x.2.1)&&sU x.2.2.1)&&w8 x.2.2.2.1)&&CJ x.2.2.2.2.1)&&(decide (0≤x.2.2.2.2.2.1)&&decide (x.2.2.2.2.2.1≤4))&&vQ x.2.2.2.2.2.2.1
theorem sib (l:pL) (b:UInt8):vW l (b.toNat:Int)=indexByte l b:=by
  unfold vW;rw[aGz];congr 1;simp
def uC (d:UInt8):pL→pY
  |[]=>none
  |[b]=>if b=d then some 0 else none
  |b::c::t=>if b=d then some 0 else if b=92 then(uC d t).map (· +2) else(uC d (c::t)).map (· +1)
def O6:pY→Int
  |some k=>k
  |none=> -1
theorem ZV {d:UInt8}:uC d []=none:=by unfold uC;rfl
theorem ZW {d b:UInt8}{t:pL}(h:b=d):uC d (b::t)=some 0:=by
  subst h;cases t<;>(unfold uC;simp)
theorem ZX {d b:UInt8}{t:pL}(h:b≠d) (hb:b=92):uC d (b::t)=(uC d (t.drop 1)).map (· +2):=by
  cases t with
  |nil=>unfold uC;rw[aFA h];simp [uC]
  |cons c t=>rw[uC,aFA h,aFz hb];rfl
theorem ZY {d b:UInt8}{t:pL}(h:b≠d) (hb:b≠92):uC d (b::t)=(uC d t).map (· +1):=by
  cases t with
  |nil=>unfold uC;rw[aFA h];simp [uC]
  |cons c t=>rw[uC,aFA h,aFA hb]
theorem ZZ {d:UInt8}: ∀(n:Nat) (l:pL) (k:Nat),l.length≤n→uC d l=some k→k<l.length
  |_,[],_,_,h=>by rw[ZV] at h;cases h
  |0,_::_,_,z,_=>by simp at z
  | n+1,b::t,k,z,h=>by
    simp only[aFF] at z|-;by_cases D:b=d
    .rw[ZW D] at h;cases h;omega
    by_cases E:b=92
    . rw[ZX D E] at h
      cases h3:uC d (t.drop 1) with
      |none=>rw[h3] at h;cases h
      | some j=>
        rw[h3] at h;obtain rfl:j+2=k:=aFE h;have:=ZZ n (t.drop 1) j (by rw[aGa];omega) h3;rw[aGa] at this;omega
    rw[ZY D E] at h
    cases h3:uC d t with
    |none=>rw[h3] at h;cases h
    | some j=>
      rw[h3] at h;obtain rfl:j+1=k:=aFE h;have:=ZZ n t j pP h3;omega
theorem Gv {a b:UInt8}:((a.toNat:Int)=(b.toNat:Int))↔a=b:=by
  rw[Int.ofNat_inj];exact UInt8.toNat_inj
theorem Gw (n:Int) (I:n≠4) (s:pL) (d:UInt8) (G:s9 s): ∀(k i:Nat),s.length+1≤i+k→s8 (N4 n s (d.toNat:Int)) (i:Int)=some (zC (fun k=> .inr ((i+k:Nat):Int)) (.inl ()) (uC d (s.drop i)))
  | 0,i,h=>by
    rw[drop_eq_nil_of_le pP,ZV,z7 (r:= .inl ()) (by unfold N4;rw[aFA pS])];rfl
  | k+1,i,h=>by
    by_cases z:i<s.length
    . have K:=G
      unfold s9 at K
      have F:N4 n s (d.toNat:Int) (i:Int)=if s[i]=d then some (.inr (.inr (i:Int))) else if s[i]=92 then some (.inl ((i+2:Nat):Int)) else some (.inl ((i+1:Nat):Int)):=by
        unfold N4;rw[aFz (uX z),aFz (tE z),IZ z];by_cases D:s[i]=d
        .rw[aFz (by simp [D]),aFz D]
        rw[aFA (by simpa[Gv] using D),aFA D,aFz (fun _=>tE z)]
        have M:((92:Int))=((92:UInt8).toNat:Int):=rfl;by_cases E:s[i]=92
        . rw[aFz (by rw[E];simp [I]),aFz E,aFz (vK pP),aFz (by unfold qM;omega)]
          congr 3
        rw[aFA (fun h=>by
          simp only[aFL,aFI] at h;exact E (Gv.1 (h.2.trans M))),aFA E,aFz (vK pP)]
        rfl
      rw[vF,F,aGb z];by_cases D:s[i]=d
      .rw[aFz D,ZW D];rfl
      rw[aFA D]
      by_cases E:s[i]=92
      . rw[aFz E,ZX D E]
        show s8 _ ((i+2:Nat):Int)=_;rw[Gw n I s d G k (i+2) pP,aHI];cases uC d (s.drop (i+2)) with
        |none=>rfl
        | some j=>
          show some (Sum.inr ((i+2+j:Nat):Int))=some (Sum.inr ((i+(j+2):Nat):Int));rw[show i+2+j=i+(j+2) by omega]
      rw[aFA E,ZY D E]
      show s8 _ ((i+1:Nat):Int)=_;rw[Gw n I s d G k (i+1) pP];cases uC d (s.drop (i+1)) with
      |none=>rfl
      | some j=>
        show some (Sum.inr ((i+1+j:Nat):Int))=some (Sum.inr ((i+(j+1):Nat):Int));rw[show i+1+j=i+(j+1) by omega]
    rw[drop_eq_nil_of_le pP,ZV,z7 (r:= .inl ()) (by unfold N4;rw[aFA pS])]
    rfl
theorem a96 {n:Int}(z:1≤n) (h3:n≤3) (s:pL) (d:UInt8) (j:s9 s):N5 n s (d.toNat:Int)=some (O6 (uC d s)):=by
  unfold N5;have h:=Gw n pP s d j (s.length+1) 0 pP;rw[aFA pS,show ((0:Int))=((0:Nat):Int) from rfl,h,aGJ];cases uC d s with
  |none=>rfl
  | some k=>
    show some (((0+k:Nat)):Int)=some (k:Int);rw[aF6]
def J3 (c base:Int):Int:=
  let n:=if 48≤c∧c≤57 then c-48 else if 97≤c∧c≤102 then c-87 else if 65≤c∧c≤70 then c-55 else-1
  if base≤n then-1 else n
def aa:pL:=[48,49,50,51,52,53,54,55,56,57,97,98,99,100,101,102]
theorem a97: ∀n:Fin 256,indexByte aa (UInt8.ofNat n)=if 48≤(n.val:Int)∧(n.val:Int)≤57 then(n.val:Int)-48 else if 97≤(n.val:Int)∧(n.val:Int)≤102 then(n.val:Int)-87 else-1:=by decide
theorem a98 (b:UInt8):indexByte aa b=if 48≤(b.toNat:Int)∧(b.toNat:Int)≤57 then(b.toNat:Int)-48 else if 97≤(b.toNat:Int)∧(b.toNat:Int)≤102 then(b.toNat:Int)-87 else-1:=by
  have:=a97 ⟨b.toNat,b.toNat_lt⟩;simpa using this
def FK (base:Int):Int→pL→Option Int
  |acc,[]=>some acc
  |acc,b::t=>if J3 b.toNat base<0 then none else FK base (base*acc+J3 b.toNat base) t
theorem a99 {c base:Int}(hb:0<base): -1≤J3 c base∧J3 c base<base:=by
  unfold J3;dsimp only
  repeat' split
  all_goals omega
theorem a1n (s:pL) (base:Int) (hb:0<base) (G:base≤16) (Q:s.length≤8): ∀(k j:Nat) (acc:Int),j+k=s.length→0≤acc→acc<16^j→
    s8 (PR s base) (acc,(j:Int))=some (match FK base acc (s.drop j) with|some n=> .inl n|none=> .inr (0,false))
  | 0,j,acc,R,_,_=>by
    have:j=s.length:=by omega
    subst this;rw[aGs,z7 (r:= .inl acc) (by unfold PR;simp)];rfl
  | k+1,j,acc,R,h0,Z=>by
    have z:j<s.length:=by omega
    have X:=s[j].toNat_lt;have V:=a99 (c:=(s[j].toNat:Int)) hb
    have hp:(16:Int) ^j≤16^8:=by
      have:(16:Nat) ^j≤16^8:=Nat.pow_le_pow_right pQ pP
      exact_mod_cast this
    have Y:(16:Int) ^8=4294967296:=by decide
    have hm:acc*base≤acc*16:=Int.mul_le_mul_of_nonneg_left G h0;have U:0≤acc*base:=Int.mul_nonneg h0 pP;have hcm:acc*base=base*acc:=Int.mul_comm _ _
    have I:PR s base (acc,(j:Int))=if J3 s[j].toNat base<0 then some (.inr (.inr (0,false))) else some (.inl (base*acc+J3 s[j].toNat base,((j+1:Nat):Int))):=by
      unfold PR;dsimp only;rw[aFz (uX z),aFz (tE z),aFz (tE z),aFz (fun _=>tE z),IZ z,aFz (tE z),sib];have M:=a98 s[j]
      have K:(if ((decide ((65:Int)≤(s[j].toNat:Int)))&&(decide ((s[j].toNat:Int)≤(70:Int))))=true then(if qM ((IntKind.wrap .i64 (IntKind.wrap .u8 ((s[j].toNat:Int)- (65:Int))))+(10:Int)) then some (((IntKind.wrap .i64 (IntKind.wrap .u8 ((s[j].toNat:Int)- (65:Int))))+(10:Int))) else none) else some (indexByte aa s[j]))=some (if 48≤(s[j].toNat:Int)∧(s[j].toNat:Int)≤57 then(s[j].toNat:Int)-48 else if 97≤(s[j].toNat:Int)∧(s[j].toNat:Int)≤102 then(s[j].toNat:Int)-87 else if 65≤(s[j].toNat:Int)∧(s[j].toNat:Int)≤70 then(s[j].toNat:Int)-55 else-1):=by
        by_cases c:65≤(s[j].toNat:Int)∧(s[j].toNat:Int)≤70
        . rw[aFz (by simpa using c),show IntKind.i64.wrap (IntKind.u8.wrap ((s[j].toNat:Int)-65))=(s[j].toNat:Int)-65 by rw[aHD,aHo];omega,aFz (by unfold qM;omega),aFA pP,aFA pP,aFz c]
          congr 1;omega
        rw[aFA (by simpa using c),M,aFA c]
      unfold uO;rw[show ([48,49,50,51,52,53,54,55,56,57,97,98,99,100,101,102]:pL)=aa from rfl,K];simp only[aFC];unfold J3;dsimp only;generalize (if 48≤(s[j].toNat:Int)∧(s[j].toNat:Int)≤57 then(s[j].toNat:Int)-48 else if 97≤(s[j].toNat:Int)∧(s[j].toNat:Int)≤102 then(s[j].toNat:Int)-87 else if 65≤(s[j].toNat:Int)∧(s[j].toNat:Int)≤70 then(s[j].toNat:Int)-55 else-1)=D;by_cases E:D<0∨base≤D
      . rw[aFz (by simpa using E)]
        by_cases F:base≤D
        .rw[aFz F,aFz pQ]
        rw[aFA F,aFz pP]
      rw[aFA (by simpa using E)]
      have F: ¬base≤D:=fun h=>E (.inr h);have O: ¬D<0:=fun h=>E (.inl h);rw[aFA F,aFA O,aFz (by unfold qM;omega),aFz (by unfold qM;omega),aFz (vK pP),hcm];rfl
    rw[vF,I,aGb z,FK];by_cases E:J3 s[j].toNat base<0
    .rw[aFz E,aFz E];rfl
    rw[aFA E,aFA E]
    show s8 _ (_,((j+1:Nat):Int))=_;exact a1n s base hb G Q k (j+1) _ pP pP (by rw[Int.pow_succ];omega)
theorem a1o (s:pL) (base:Int) (hb:0<base) (j:base≤16) (z:s.length≤8):GM s base=some (match FK base 0 s with|some n=>(n,!decide (s=[])) |none=>(0,false)):=by
  unfold GM;rw[show ((0:Int),(0:Int))=((0:Int),((0:Nat):Int)) from rfl,a1n s base hb j z s.length 0 0 pP pP pQ,aGJ];cases h:FK base 0 s with
  |none=>rfl
  |some n=>rfl
theorem Gx {base:Int}(hb:0<base): ∀{s:pL}{acc n:Int},0≤acc→FK base acc s=some n→0≤n
  |[],acc,n,h0,h=>by cases h;exact h0
  | b::t,acc,n,h0,h=>by
    rw[FK] at h;split at h
    .cases h
    exact Gx hb (by have:=Int.mul_nonneg (Int.le_of_lt hb) h0;omega) h
def TV:pL:=[92,34,61,58,35,33,123,125,32]
def L5 (l:pL) (k:Nat) (ok:Int→Bool) (f:Int→pL):pL×Nat:=
  match FK 16 0 l with
  |some n=>if ok n=true then(f n,k) else([],0)
  |none=>([],0)
def zN (l:pL):pL×Nat:=
  match l with
  | _::c::t=>
    if c=110 then([10],2) else if c=114 then([13],2) else if c=116 then([9],2)
    else if TV.contains c=true then([c],2)
    else if c=120∧2≤t.length then L5 (t.take 2) 4 (fun n=>decide (n≤127)) (fun n=>tG [n])
    else if c=117∧4≤t.length then L5 (t.take 4) 6 yR encodeRune
    else([],0)
  |_=>([],0)
theorem DL {a:UInt8}{n:Int}(b:UInt8) (hb:n=(b.toNat:Int)):decide ((a.toNat:Int)=n)=decide (a=b):=by
  rw[hb];simp only[Gv]
theorem aAa (a c:UInt8) (t:pL):sL (a::c::t) 2 4=t.take 2:=rfl
theorem aAb (a c:UInt8) (t:pL):sL (a::c::t) 2 6=t.take 4:=rfl
theorem aAc (a c:UInt8) (t:pL):sL (a::c::t) 1 2=[c]:=rfl
theorem aAd (a:UInt8) (t:pL):IX (a::t)=some ((zN (a::t)).1,((zN (a::t)).2:Int)):=by
  cases t with
  |nil=>unfold IX;rw[aFz pR];rfl
  | cons c t=>
    have O:sE (a::c::t) (1:Int)=(c.toNat:Int):=IZ (i:=1) pR;have E:((a::c::t).length:Int)=(t.length:Int)+2:=by simp;omega
    unfold IX;rw[aFA pS,aFz (⟨pQ,by simp;omega⟩),O,DL (n:=110) 110 rfl,DL (n:=114) 114 rfl,DL (n:=116) 116 rfl,DL (n:=120) 120 rfl,DL (n:=117) 117 rfl,sib,aAa,aAb,aAc,E,←contains_iff_indexByte];show _=some ((if c=110 then(([10],2):pL×Nat) else _).1,((if c=110 then(([10],2):pL×Nat) else _).2:Int));by_cases G:c=110
    .rw[aFz (by simpa using G),aFz G];rfl
    rw[aFA (by simpa using G),aFA G];by_cases F:c=114
    .rw[aFz (by simpa using F),aFz F];rfl
    rw[aFA (by simpa using F),aFA F];by_cases h3:c=116
    .rw[aFz (by simpa using h3),aFz h3];rfl
    rw[aFA (by simpa using h3),aFA h3];by_cases I:c=120
    . subst I
      rw[aFz (show decide ((120:UInt8)=120)=true from rfl),aFA (show¬TV.contains 120=true by decide)];by_cases D:2≤t.length
      . rw[aFz pS,aFz ⟨pQ,pQ,pP⟩,aFz (show _∧_ from⟨rfl,D⟩),a1o _ 16 pQ pQ (by rw[aGh];omega),aFC]
        unfold L5;cases M:FK 16 0 (t.take 2) with
        |none=>rfl
        | some n=>
          have h0:=Gx pQ (aGI 0) M;have z:t.take 2≠[]:=by intro h;have:=aFZ List.length h;rw[aGh,aFS] at this;omega
          simp only[z,decide_false,Bool.not_false,Bool.true_and];by_cases j:n≤127
          .rw[aFz (by simpa using j),aFz (by simpa using j),aHD,show n%256=n by omega];rfl
          rw[aFA (by simpa using j),aFA (by simpa using j)];rfl
      rw[aFA pS,aFA (fun h=>D h.2),aFA (show¬((120:UInt8)=117∧4≤t.length) from fun h=>by cases h.1)]
      rfl
    rw[aFA (by simpa using I)];by_cases K:c=117
    . subst K
      rw[aFz (show decide ((117:UInt8)=117)=true from rfl),aFA (show¬TV.contains 117=true by decide),aFA (show¬((117:UInt8)=120∧2≤t.length) from fun h=>by cases h.1)];by_cases D:4≤t.length
      . rw[aFz pS,aFz ⟨pQ,pQ,pP⟩,aFz (show _∧_ from⟨rfl,D⟩),a1o _ 16 pQ pQ (by rw[aGh];omega),aFC]
        unfold L5;cases M:FK 16 0 (t.take 4) with
        |none=>rfl
        | some n=>
          have h0:=Gx pQ (aGI 0) M;have z:t.take 4≠[]:=by intro h;have:=aFZ List.length h;rw[aGh,aFS] at this;omega
          simp only[z,decide_false,Bool.not_false];rw[aFz trivial,a9T,aFC]
          have hb:yR n=(decide (n≤1114111)&&(decide (n<55296)||decide (57343<n))):=by
            unfold yR;rw[show decide ((0:Int)≤n)=true by simpa using h0,Bool.true_and]
          rw[←hb];by_cases j:yR n=true
          .rw[aFz j,aFz j,aFz j];rfl
          rw[aFA j,aFA j];rfl
      rw[aFA pS,aFA (fun h=>D h.2)]
      rfl
    rw[aFA (by simpa using K)];show (if TV.contains c=true then _ else _)=_;by_cases h4:TV.contains c=true
    .rw[aFz h4,aFz h4,aFz ⟨pQ,pQ,pP⟩];rfl
    rw[aFA h4,aFA h4,aFA (fun h=>I h.1),aFA (fun h=>K h.1)]
    rfl
def J4 (n:Int) (b:UInt8):Bool:=decide (b=10)||((decide (n=2)||decide (n=3))&&decide (b=34))
def vL (n:Int):pL→pL×Nat
  |[]=>([],0)
  |b::t=>if b=92 then zN (b::t) else if J4 n b=true then([b],0) else([b],1)
theorem ac {l:pL}{k:Nat}{ok:Int→Bool}{f:Int→pL}(hf: ∀n,(f n).length≤4):(L5 l k ok f).1.length≤4∧((L5 l k ok f).2=0∨(L5 l k ok f).2=k):=by
  unfold L5;cases FK 16 0 l with
  |none=>exact⟨by simp,.inl rfl⟩
  | some n=>
    dsimp only;split
    .exact⟨hf n,.inr rfl⟩
    exact⟨by simp,.inl rfl⟩
theorem aAe (l:pL):(zN l).1.length≤4∧(zN l).2≤l.length:=by
  unfold zN;split
  . rename_i a c t
    have z:=ac (l:=t.take 2) (k:=4) (ok:=fun n=>decide (n≤127)) (f:=fun n=>tG [n]) (fun n=>by simp [tG]);have j:=ac (l:=t.take 4) (k:=6) (ok:=yR) (f:=encodeRune) Gt
    repeat' split
    all_goals first
      |exact⟨by simp,by simp⟩
      |(rename_i h;exact⟨z.1,by rcases z.2 with e|e<;>rw[e]<;>simp<;>omega⟩)
      |(rename_i h;exact⟨j.1,by rcases j.2 with e|e<;>rw[e]<;>simp<;>omega⟩)
  exact⟨by simp,by simp⟩
theorem TW {n:Int}{b:UInt8}{t:pL}(h:b=92):vL n (b::t)=zN (b::t):=aFz h
theorem TX {n:Int}{b:UInt8}{t:pL}(h:b≠92) (hb:J4 n b=true):vL n (b::t)=([b],0):=(aFA h).trans (aFz hb)
theorem TY {n:Int}{b:UInt8}{t:pL}(h:b≠92) (hb: ¬J4 n b=true):vL n (b::t)=([b],1):=(aFA h).trans (aFA hb)
theorem Gy (n:Int) (l:pL):(vL n l).1.length≤4∧(vL n l).2≤l.length:=by
  cases l with
  |nil=>exact⟨by simp [vL],by simp [vL]⟩
  | cons b t=>
    by_cases h:b=92
    .rw[TW h];exact aAe _
    by_cases hb:J4 n b=true
    .rw[TX h hb];exact⟨by simp,by simp⟩
    rw[TY h hb];exact⟨by simp,by simp⟩
def BV (n:Int):Nat→pL→pL⊕Nat
  |0,_=> .inl []
  |_+1,[]=> .inl []
  | k+1,b::t=>if (vL n (b::t)).2=0 then .inr 0 else match BV n k ((b::t).drop (vL n (b::t)).2) with
    | .inl r=> .inl ((vL n (b::t)).1++r)
    | .inr e=> .inr ((vL n (b::t)).2+e)
def xA (n:Int) (s:pL):pL×Int×Int:=match BV n s.length s with
  | .inl r=>(r,0,0)
  | .inr e=>([],e,3)
theorem Gz (a b:pL):uQ (a++b)=uQ a++uQ b:=by simp [uQ]
theorem Ha (a:pL):tG (uQ a)=a:=by
  unfold tG uQ;rw[map_map]
  conv=>rhs;rw[←map_id a]
  congr 1;funext b;simp
theorem aAf {n:Int}(j:1≤n) (h3:n≤3) (b:UInt8):N6 n (b.toNat:Int)=J4 n b:=by
  unfold N6 J4 BF;rw[DL (n:=10) 10 rfl,DL (n:=34) 34 rfl];by_cases c1:n=1
  .subst c1;simp
  have h:n=2∨n=3:=by omega
  rcases h with rfl|rfl<;>simp
theorem aAg {x:pV}{c:Int}(h:x.length≤10000000000000):N7 (x,()) c=some ():=by
  unfold N7;exact aFz (by simp only[aGC,aHj];omega)
theorem aAh {x:pV}{t:pL}(h:x.length≤10000000000000) (j:t.length≤4000000000):EA (x,()) t=some ():=by
  unfold EA;exact aFz (by dsimp only;omega)
theorem aAi {n:Int}(D:1≤n) (h3:n≤3) {s:pL}(z:s9 s) {x:pV}{i:Nat}(hi:i<s.length) (j:x.length≤10000000000000):
    Q9 n s ((i:Int),x)=if (vL n (s.drop i)).2=0 then some (.inr (.inr ([],(i:Int),3))) else some (.inl (((i+(vL n (s.drop i)).2:Nat):Int),x++uQ (vL n (s.drop i)).1)):=by
  have h:=z;unfold s9 at h;have hp:=Gy n (s.drop i);rw[aGa] at hp;unfold Q9;dsimp only;rw[aFz (uX hi),aFz (tE hi),IZ hi,O3,DL (n:=92) 92 rfl,aAf D h3];rw[aGb hi] at hp|-;by_cases c1:s[i]=92
  . rw[TW c1] at hp|-
    rw[aFz (by simpa using c1),aFz ⟨pP,pP,aGI _⟩,aAd];simp only[aFC];by_cases h0:(zN (s[i]::s.drop (i+1))).2=0
    .rw[aFz (by rw[h0];rfl),aFz h0]
    rw[aFA (by rw[aFI];omega),aFA h0,aAh j pP]
    simp only[aFC];rw[aFz (by unfold qM;omega)];rfl
  rw[aFA (by simpa using c1),aFz (tE hi)]
  by_cases hb:J4 n s[i]=true
  .rw[aFz hb,TX c1 hb];rfl
  rw[aFA hb,TY c1 hb,aFz (tE hi),aAg j,aFC]
  rw[aFz (vK pP)];rfl
theorem a1p {n:Int}(z:1≤n) (h3:n≤3) {s:pL}(j:s9 s): ∀(k i:Nat) (x:pV),i≤s.length→s.length-i≤k→x.length+4*(s.length-i)≤5000000000000→
    s8 (Q9 n s) ((i:Int),x)=some (match BV n k (s.drop i) with| .inl r=> .inl (x++uQ r) | .inr e=> .inr ([],((i+e:Nat):Int),3))
  | k,i,x,hi,F,E=>by
    by_cases h:i<s.length
    . cases k with
      |zero=>omega
      | succ k=>
        have hp:=Gy n (s.drop i);rw[vF,aAi z h3 j h pP];rw[aGa] at hp
        have D:BV n (k+1) (s.drop i)=if (vL n (s.drop i)).2=0 then .inr 0 else match BV n k ((s.drop i).drop (vL n (s.drop i)).2) with
            | .inl r=> .inl ((vL n (s.drop i)).1++r)
            | .inr e=> .inr ((vL n (s.drop i)).2+e):=by
          rw[aGb h,BV]
        rw[D];by_cases h0:(vL n (s.drop i)).2=0
        .rw[aFz h0,aFz h0];rfl
        rw[aFA h0,aFA h0]
        show s8 _ (((i+(vL n (s.drop i)).2:Nat):Int),_)=_;rw[a1p z h3 j k _ _ pP pP (by rw[aFD];simp only[uQ,aG0];omega),aHI];cases BV n k (s.drop (i+(vL n (s.drop i)).2)) with
        |inl r=>dsimp only;rw[Gz,aFO]
        |inr e=>dsimp only;rw[aGj]
    have:i=s.length:=by omega
    subst this;rw[z7 (r:= .inl x) (by unfold Q9;simp),aGs];cases k<;>simp [BV,uQ]
theorem aAj {n:Int}(z:1≤n) (h3:n≤3) {s:pL}(j:s9 s):IY n s=some (xA n s):=by
  unfold IY;have h:=j;unfold s9 at h;rw[aFA pS,aFA pS,show ((0:Int),([]:pV))=(((0:Nat):Int),([]:pV)) from rfl,a1p z h3 j s.length 0 [] pP pP pS,aGJ];unfold xA;cases BV n s.length s with
  | inl r=>
    show some (tG ([]++uQ r),(0:Int),(0:Int))=_;rw[nil_append,Ha]
  | inr e=>
    show some (([]:pL),((0+e:Nat):Int),(3:Int))=_;rw[aF6]
theorem aAk (x y:UInt8):(x==y)=decide (y=x):=by
  by_cases h:y=x
  .subst h;rw[beq_self_eq_true,aGe rfl]
  rw[decide_eq_false h,beq_eq_false_iff_ne];exact fun e=>h e.symm
theorem aAl {o:pY}:(if (O6 o== -1)=true then(-1:Int) else O6 o+1)=O6 (o.map (· +1)):=by
  cases o with
  |none=>rfl
  | some k=>
    show (if ((k:Int)== -1)=true then(-1:Int) else(k:Int)+1)=((k+1:Nat):Int);rw[aFA (by rw[aHc];omega)];rfl
theorem Hb: ∀(l:pL),indexByte l 10=O6 (l.findIdx? fun b=>decide (b=10))
  |[]=>rfl
  | b::t=>by
    rw[indexByte,aHd,Hb t,aAk,aAl];by_cases h:b=10
    .subst h;rfl
    rw[aFA (by simpa using fun e=>h (Eq.symm e)),aFA (by simpa using h)]
theorem aAm (l:pL):(zN l).2=0∨(zN l).1.length≤(zN l).2:=by
  unfold zN;split
  . rename_i a c t
    have j:=ac (l:=t.take 2) (k:=4) (ok:=fun n=>decide (n≤127)) (f:=fun n=>tG [n]) (fun n=>by simp [tG]);have h:=ac (l:=t.take 4) (k:=6) (ok:=yR) (f:=encodeRune) Gt
    repeat' split
    all_goals first
      |exact .inl rfl
      |exact .inr pR
      | (rcases j.2 with e|e
         .exact .inl e
         .exact .inr (by rw[e];exact j.1))
      | (rcases h.2 with e|e
         .exact .inl e
         exact .inr (by rw[e];have:=h.1;omega))
  exact .inl rfl
theorem aAn (n:Int) (l:pL):(vL n l).2=0∨(vL n l).1.length≤(vL n l).2:=by
  cases l with
  |nil=>exact .inl rfl
  | cons b t=>
    by_cases h:b=92
    .rw[TW h];exact aAm _
    by_cases hb:J4 n b=true
    .rw[TX h hb];exact .inl rfl
    rw[TY h hb];exact .inr pR
theorem a1q (n:Int): ∀(k:Nat) (l r:pL),BV n k l= .inl r→r.length≤l.length
  |0,_,_,h=>by cases h;simp
  |_+1,[],_,h=>by cases h;simp
  | k+1,b::t,r,h=>by
    rw[BV] at h;split at h
    .cases h
    rename_i z
    have hp:=(aAn n (b::t)).resolve_left z;have hq:=(Gy n (b::t)).2;cases j:BV n k ((b::t).drop (vL n (b::t)).2) with
    | inl r'=>
      rw[j] at h;cases h;have:=a1q n k _ r' j;rw[aGa] at this;rw[aFD];omega
    |inr e=>rw[j] at h;cases h
theorem a1r (n:Int) (s:pL):(xA n s).1.length≤s.length:=by
  unfold xA;cases h:BV n s.length s with
  |inl r=>exact a1q n _ _ _ h
  |inr e=>simp
theorem FL {p:Prop}{α:Type}{v:α}:p→(some v).isSome=true:=fun _=>rfl
abbrev C4:=pL×(pM×(List sX×(List sN×Unit)))
theorem xM {v:Ty}(a b:pL) (y:v.den): ∀l:List (pL×v.den),sT .str v (t6 .str v a y l) b=if b=a then y else sT .str v l b
  | []=>by
    show (if decide (b=a)=true then y else v.zero)=if b=a then y else v.zero;by_cases h:b=a<;>simp [h]
  | (x,z)::r=>by
    have ih:=xM a b y r;show sT .str v (if decide (a=x)=true then(a,y)::r else(x,z)::t6 .str v a y r) b=if b=a then y else(if decide (b=x)=true then z else sT .str v r b);by_cases h:a=x
    . rw[aFz (aGe h)]
      show (if decide (b=a)=true then y else sT .str v r b)=_;by_cases hb:b=a
      .rw[aFz (aGe hb),aFz hb]
      rw[aFA (by simpa using hb),aFA hb,aFA (by rw[←h];simpa using hb)]
    rw[aFA (by simpa using h)]
    show (if decide (b=x)=true then z else sT .str v (t6 .str v a y r) b)=_;rw[ih];by_cases hb:b=a
    .rw[aFz hb,aFz hb,aFA (by rw[hb];simpa using h)]
    rw[aFA hb,aFA hb]
theorem GY: ∀(x y:pL),Op.bytesLess x y=decide (x<y)
  |[],[]=>by simp [Op.bytesLess]
  |_::_,[]=>by simp [Op.bytesLess]
  |[],_::_=>by simp [Op.bytesLess]
  | a::x,b::y=>by
    rw[Op.bytesLess,GY x y];simp only[cons_lt_cons_iff];by_cases j:a<b<;>by_cases h:a=b<;>by_cases h3:x<y<;>simp [j,h,h3]
theorem Hc (l:pM):(tS l).Pairwise (·≤·):=by
  have:=pairwise_mergeSort (le:=fun x y:pL=>decide (x≤y)) (fun a b c z j=>aGe (List.le_trans (aGc z) (aGc j))) (fun a b=>by simpa using List.le_total a b) l;exact this.imp (fun h=>aGc h)
theorem TZ (l:pM):(tS l).Perm l:=mergeSort_perm l _
theorem U0 (l:pM):(tS l).length=l.length:=(TZ l).length_eq
abbrev Hd (y:sN):Prop:=s9 y.2.2.2.1∧s9 y.2.2.2.2.1∧s9 y.2.2.2.2.2.2.1
def He (es:List sN) (x:pL):Int×Bool:=zC (fun k=>((k:Int),true)) ((0:Int),false) (es.findIdx? fun y=>decide (y.1=x))
theorem aAo (c:C4) (x:pL) (hl:c.2.2.2.1.length≤5000):KA c x=some (He c.2.2.2.1 x):=by
  have h:=J0 (f:=SM c x) (l:=c.2.2.2.1) (fun y=>decide (y.1=x)) (fun k=>((k:Int),true)) (fun i h=>by
    unfold SM;rw[aFz (uX h),aFz (tE h),EF (t:=sR) h,aFz (vK pP)]) (by
    unfold SM;rw[aFA (wM _)])
  unfold KA;rw[h,TR];rfl
theorem QG {α:Type}:s9 ([]:List α):=by unfold s9;exact aGu _
theorem Hf {α:Type}{f:Int→Option (Int⊕(Unit⊕Bool))}(l:List α) (hf: ∀(i:Nat) (h:i<l.length),f i=some (.inl (i+1))) (j:f l.length=some (.inr (.inl ()))):
    s8 f 0=some (.inl ()):=by
  have h:=J0 (f:=f) (l:=l) (fun _=>false) (fun _=>false) (fun i h=>by rw[aFA Bool.false_ne_true];exact hf i h) j;rw[h];have:l.findIdx? (fun _=>false)=none:=aGr.2 (fun _ _=>rfl);rw[this];rfl
theorem L6 (l:pM) (hl:s9 l):wV l l=some true:=by
  unfold s9 at hl;unfold wV
  rw[aFA pR,Hf l (fun i h=>by
    unfold YP;rw[aFz (uX h),aFz (tE h),aFz (tE h),aFA pR,aFz (vK pP)]) (by
    unfold YP;rw[aFA (wM _)])]
  rfl
theorem QH (l:List sX) (hl:s9 l):zY l l=some true:=by
  unfold s9 at hl;unfold zY
  rw[aFA pR,Hf l (fun i h=>by
    unfold YQ;rw[aFz (uX h),aFz (tE h),aFz (tE h),aFA pR,aFz (vK pP)]) (by
    unfold YQ;rw[aFA (wM _)])]
  rfl
theorem aAp (y:sN) (h:Hd y):PJ y y=some ():=by
  unfold PJ;rw[L6 _ h.1,L6 _ h.2.1,QH _ h.2.2,aFz FL,aFz FL,aFz FL]
theorem ae (l:List sN) (hl:s9 l) (h: ∀y∈l,Hd y):DC l l=some true:=by
  unfold s9 at hl;unfold DC
  rw[aFA pR,Hf l (fun i hi=>by
    have j:=h l[i] (aGp hi);unfold Z1;rw[aFz (uX hi),aFz (tE hi),aFz (tE hi),EF (t:=sR) hi];rw[aAp _ j,aFC,L6 _ j.1,L6 _ j.2.1,QH _ j.2.2,aFA (by simp [val]),aFz (vK pP)]) (by
    unfold Z1;rw[aFA (wM _)])]
  rfl
abbrev eD:tT:=([],([],([],([],([],(0,([],())))))))
def FM (es:List tT) (i:Nat):Bool:=((es.take i).any fun y=>decide (y.1=(es.getD i eD).1))|| !zF (es.getD i eD)
def wP (c:C4):Bool:=((wN c.1&&w8 c.2.1)&&vQ c.2.2.1)&&(decide ((c.2.2.2.1.length:Int)≤1000)&& !((List.range c.2.2.2.1.length).any (FM c.2.2.2.1)))
theorem Hg {c:C4}(h:wP c=true) {i:Nat}(hi:i<c.2.2.2.1.length):zF (c.2.2.2.1.getD i eD)=true:=by
  unfold wP at h;simp only[aFL,aF2,aGg,aHf] at h;have:=h.2.2 i hi;unfold FM at this;simp only[aGU,aF2,not_or,Bool.not_eq_false] at this;exact this.2
theorem a1s {l:pL}(h: ∀b∈l,b.toNat<128):validD l=true:=by
  rw[validD_ascii l.length l (fun b hb=>h b (mem_of_mem_take hb)),aGs];rfl
theorem aAq {b:UInt8}(h:yP b.toNat=false):b.toNat<128:=by
  unfold yP at h;simp only[aHt,aHp,aFL,aFI] at h;omega
theorem Hh {x:pL}(h:uU x=true):sU x=true:=by
  cases x with
  |nil=>cases h
  | cons b t=>
    unfold uU at h;simp only[aFL,aF2,aGg,aGQ,aGd] at h;obtain⟨⟨h0,z⟩,D⟩:=h;unfold sU;rw[aFL,aFI];refine⟨by simp only[aFF];omega,a1s fun c j=>?_⟩;rcases aFN.1 j with rfl|j
    . unfold A4 at z
      simp only[aFL,aFI] at z;omega
    exact aAq (D c j)
theorem GZ {l:pM}(h:w8 l=true):l.length≤20∧∀x∈l,sU x=true:=by
  unfold w8 at h;simp only[aFL,aF2,aGg,aFI,aGQ,aHp] at h;exact⟨pP,fun x j=>by simpa using h.2 x j⟩
theorem Hi {α:Type}{r:α→α→Prop}(tr: ∀a b c,r a b→r b c→r a c) {l:List α}(h: ∀(i:Nat) (hi:i+1<l.length),r l[i] l[i+1]):l.Pairwise r:=by
  rw[aGf];intro i j hi z D;obtain⟨k,rfl⟩: ∃k,j=i+1+k:=⟨j-i-1,pP⟩
  induction k with
  |zero=>exact h i z
  |succ k ih=>exact tr _ _ _ (ih pP pP) (h (i+1+k) z)
theorem FN {α:Type}{l:List α}{i:Nat}{d:α}(h:i<l.length):l.getD i d=l[i]:=by
  rw[aFV,aFG h];rfl
theorem af {l:pM}(h:CJ l=true):l.length≤20∧(∀x∈l,uU x=true)∧l.Pairwise (· < ·):=by
  unfold CJ at h;simp only[aFL,aF2,aGg,aFI,aHf,aGQ] at h;obtain⟨j,D⟩:=h;unfold TT at j;simp only[aGV,aHt,aHp,aGd] at j;refine⟨pP,fun x z=>?_,Hi (r:=fun a b:pL=>a<b) (fun a b c=>List.lt_trans) fun i hi=>?_⟩
  . obtain⟨i,hi,rfl⟩:=aGW z
    have:=(j i hi).1;rwa [FN hi] at this
  have:=(j (i+1) hi).2
  rw[FN hi,Nat.add_sub_cancel,FN (show i<l.length by omega),GY] at this;exact aGc (this.resolve_left pP)
theorem H0 {l:List sX}(h:vQ l=true):l.length≤20∧(∀x∈l,uU x.1=true∧sU x.1=true∧sU x.2.1=true)∧l.Pairwise (fun a b=>a.1<b.1):=by
  unfold vQ at h;simp only[aFL,aF2,aGg,aFI,aHf,aGQ] at h;obtain⟨j,D⟩:=h;unfold TU at j;simp only[aGV,aHt,aHp,aGd] at j;refine⟨pP,fun x z=>?_,Hi (r:=fun a b:sX=>a.1<b.1) (fun a b c=>List.lt_trans) fun i hi=>?_⟩
  . obtain⟨i,hi,rfl⟩:=aGW z
    have:=(j i hi).1;rw[FN hi] at this;exact⟨this.1,Hh this.1,this.2⟩
  have:=(j (i+1) hi).2
  rw[FN hi,Nat.add_sub_cancel,FN (show i<l.length by omega),GY] at this;exact aGc (this.resolve_left pP)
theorem aAr {es:List tT}(h: ∀i,i<es.length→FM es i=false):es.Pairwise (fun a b=>a.1≠b.1):=by
  rw[aGf];intro i j hi D F E;have z:=h j D;unfold FM at z;simp only[aGV,aGg,aFI] at z;rw[FN D] at z;exact z.1 es[i] (by rw[aHw];exact⟨i,pP,rfl⟩) E
theorem U1 {c:C4}(h:wP c=true):wN c.1=true∧w8 c.2.1=true∧vQ c.2.2.1=true∧c.2.2.2.1.length≤1000∧(∀x∈c.2.2.2.1,zF x=true)∧c.2.2.2.1.Pairwise (fun a b=>a.1≠b.1):=by
  have j:=h;unfold wP at j;simp only[aFL,aF2,aGg,aHf,aFI,aGQ] at j;obtain⟨⟨⟨F,E⟩,h3⟩,h4,D⟩:=j;refine⟨F,E,h3,pP,fun x z=>?_,aAr D⟩;obtain⟨i,hi,rfl⟩:=aGW z;have:=Hg h hi;rwa [FN hi] at this
theorem ag {a b:pL}(h: ¬a<b) (j:a≠b):b<a:=by
  have:=Gu a b;rw[GY,GY] at this;have D:decide (a<b)=false:=by simpa using h
  have z:decide (b=a)=false:=by simpa using fun e=>j e.symm
  rw[D,z] at this;simpa using this.symm
theorem Hj {α:Type}(f:α→pL) {x:α}{p:α→Bool}: ∀{l:List α},l.Pairwise (fun a b=>f a<f b)→(∀y∈l,f y≠f x)→(∀y∈l,p y= !decide (f y<f x))→
    (l.take ((l.findIdx? p).getD l.length)++[x]++l.drop ((l.findIdx? p).getD l.length)).Pairwise (fun a b=>f a<f b)
  |[],_,_,_=>by simp
  | a::t,hp,E,z=>by
    rw[aHC] at hp;have D:=z a aFT;rw[aHd];by_cases h:f a<f x
    . have G:p a=false:=by rw[D];simpa using h
      rw[G];have ih:=Hj f (x:=x) hp.2 (fun y j=>E y (aFK _ j)) (fun y j=>z y (aFK _ j))
      have e:((if false=true then some 0 else(t.findIdx? p).map fun i=>i+1).getD (a::t).length)=(t.findIdx? p).getD t.length+1:=by
        cases t.findIdx? p<;>rfl
      rw[e,take_succ_cons,aHz,cons_append,cons_append,aHC];refine⟨fun y j=>?_,ih⟩;rw[aFO] at j;rcases aGl.1 j with j|j
      .exact hp.1 y (mem_of_mem_take j)
      rcases aFN.1 j with rfl|j
      .exact h
      exact hp.1 y (mem_of_mem_drop j)
    have F:p a=true:=by rw[D];simpa using h
    rw[F];have I:f x<f a:=ag h (E a aFT);show ([]++[x]++(a::t)).Pairwise _;rw[nil_append,aHs,aHC];refine⟨fun y j=>?_,aHC.2 hp⟩;rcases aFN.1 j with rfl|j
    .exact I
    exact List.lt_trans I (hp.1 y j)
theorem aAs {α:Type}{l:List α}{x y:α}{k:Nat}(h:y∈l.take k++[x]++l.drop k):y=x∨y∈l:=by
  rw[aFO] at h;rcases aGl.1 h with h|h
  .exact .inr (mem_of_mem_take h)
  rcases aFN.1 h with h|h
  .exact .inl h
  exact .inr (mem_of_mem_drop h)
theorem aAt {α:Type}{l:List α}{x:α}{k:Nat}:(l.take k++[x]++l.drop k).length=l.length+1:=by
  simp only[aFD,aGh,aGa,aGC];omega
theorem aAu {α:Type}{r:α→α→Prop}{l:List α}(h:l.Pairwise r) {i:Nat}(h0:0<i) (hi:i<l.length):r l[i-1] l[i]:=by
  rw[aGf] at h;exact h (i-1) i pP hi pP
theorem a1t {l:List sX}(h:l.length≤20) (j: ∀x∈l,uU x.1=true∧sU x.2.1=true) (hp:l.Pairwise (fun a b=>a.1<b.1)):vQ l=true:=by
  unfold vQ;simp only[aFL,aF2,aGg,aFI,aHf,aGQ];refine⟨fun i hi=>?_,pP⟩;unfold TU;obtain⟨a,b⟩:=j _ (aGp hi);rw[FN hi,a,b];by_cases h0:0<i
  . rw[FN (show i-1<l.length by omega),GY]
    simp [aAu hp h0 hi]
  simp [h0]
theorem aAv {l:List sX}{n v:pL}(h:vQ l=true) (hl: ¬20≤l.length) (E:uU n=true) (F:sU v=true) (G: ¬(l.any fun y=>decide (y.1=n))=true):vQ (zD l n v)=true:=by
  obtain⟨K,D,h3⟩:=H0 h;have z: ∀y∈l,y.1≠n:=fun y j e=>G (any_eq_true.2 ⟨y,j,by simp [e]⟩)
  have I:yQ l n=none:=by
    unfold yQ;rw[aGr];intro y j;simpa using z y j
  unfold zD;rw[I];show vQ (l.take (uV l n)++[(n,v,())]++l.drop (uV l n))=true;unfold uV;refine a1t (by rw[aAt];omega) (fun y j=>?_) (Hj (fun y:sX=>y.1) (x:=(n,v,())) h3 z fun y j=>?_)
  . rcases aAs j with rfl|j
    .exact⟨E,F⟩
    exact⟨(D y j).1,(D y j).2.2⟩
  rw[GY]
  have:decide (y.1=n)=false:=by simpa using z y j
  rw[this,Bool.or_false]
structure a1u (es:List tT):Prop where
  len:es.length≤1000
  ok: ∀x∈es,zF x=true
  pw:es.Pairwise (fun a b=>a.1≠b.1)
section
variable {s:pL}(hsm:s.length≤4000000000) {bad:Int}{ends:pV}{tag:pL}{cms:pM}{fds:List sX}{es:List tT}
include hsm
omit hsm in
theorem aAw {c:C4}(D:wN c.1=true) (z:w8 c.2.1=true) (h3:vQ c.2.2.1=true) (h4:a1u c.2.2.2.1):wP c=true:=by
  unfold wP;rw[D,z,h3,aGe (show ((c.2.2.2.1.length:Int))≤1000 by have:=h4.len;omega)];simp only[Bool.true_and,aF2,aGg,aHf,aGQ];intro i hi;unfold FM;rw[FN hi,h4.ok _ (aGp hi)];simp only[Bool.not_true,Bool.or_false,aGg,aFI];intro y h;rw[aHw] at h;obtain⟨j,E,rfl⟩:=h;exact aGf.1 h4.pw j i pP hi pP
end
theorem BW {x:pL}(h:sU x=true):x.length≤4000:=by
  unfold sU at h;simp only[aFL,aFI] at h;omega
structure Hk (x:tT):Prop where
  id:x.1.length≤4000
  src:x.2.1.length≤4000
  tgt:x.2.2.1.length≤4000
  com:x.2.2.2.1.length≤20∧∀y∈x.2.2.2.1,y.length≤4000
  flg:x.2.2.2.2.1.length≤20∧∀y∈x.2.2.2.2.1,y.length≤4000
  fld:x.2.2.2.2.2.2.1.length≤20∧∀y∈x.2.2.2.2.2.2.1,y.1.length≤4000∧y.2.1.length≤4000
theorem a1v {x:tT}(h:zF x=true):Hk x:=by
  have I:=h;unfold zF at I;simp only[aFL] at I;obtain⟨⟨⟨⟨⟨⟨⟨⟨O,M⟩,K⟩,D⟩,z⟩,G⟩,E⟩,_⟩,F⟩:=I;obtain⟨c1,c2⟩:=GZ G;obtain⟨f1,f2,f3⟩:=af E;obtain⟨g1,g2,g3⟩:=H0 F;exact⟨BW K,BW D,BW z,⟨c1,fun y j=>BW (c2 y j)⟩,⟨f1,fun y j=>BW (Hh (f2 y j))⟩,⟨g1,fun y j=>⟨BW (g2 y j).2.1,BW (g2 y j).2.2⟩⟩⟩
theorem a1w {c:C4}(h:wP c=true):DE c c=some ()∧((((decide (c.1=c.1))&&(val (wV c.2.1 c.2.1)))&&(val (zY c.2.2.1 c.2.2.1)))&&(val (DC c.2.2.2.1 c.2.2.2.1)))=true:=by
  obtain⟨F,E,h3,h4,D,_⟩:=U1 h;have f2:s9 c.2.1:=by have:=(GZ E).1;unfold s9;omega
  have f3:s9 c.2.2.1:=by have:=(H0 h3).1;unfold s9;omega
  have f4:s9 c.2.2.2.1:=by unfold s9;omega
  have f5: ∀y∈c.2.2.2.1,Hd y:=fun y z=>by
    have j:=a1v (D y z);exact⟨by have:=j.com.1;unfold s9;omega,by have:=j.flg.1;unfold s9;omega,by have:=j.fld.1;unfold s9;omega⟩
  constructor
  . unfold DE PW
    rw[L6 _ f2,QH _ f3,ae _ f4 f5];rw[aFz FL,aFz FL,aFC,aFz FL]
  rw[L6 _ f2,QH _ f3,ae _ f4 f5]
  simp [val]
theorem aAx:DE (([]:pL),(([]:pM),(([]:List r6),(([]:List sN),())))) (([]:pL),(([]:pM),(([]:List r6),(([]:List sN),()))))=some ():=by
  unfold DE PW;dsimp only;rw[L6 _ QG,QH _ QG,ae _ QG (fun _ h=>by cases h)];rw[aFz FL,aFz FL,aFC,aFz FL]
noncomputable section
abbrev Wd:=Bool×pL×Unit
def tO (b:UInt8):Bool:=([32,9]:pL).contains b
def u6 (b:UInt8):Bool:= !([32,9,34]:pL).contains b
theorem aAy (s:pL):trimLeftS s ([32,9]:pL)=s.dropWhile tO:=rfl
theorem a1x (b:UInt8):tO b=true↔b=32∨b=9:=by simp [tO]
theorem Hl (b:UInt8):u6 b=true↔b≠32∧b≠9∧b≠34:=by simp [u6]
theorem ah {b:UInt8}(h:tO b=false) (j:b≠34):u6 b=true:=by
  rw[Hl];have: ¬(b=32∨b=9):=fun e=>by rw[(a1x b).2 e] at h;cases h
  exact⟨fun e=>this (.inl e),fun e=>this (.inr e),j⟩
theorem aAz {b:UInt8}(h:u6 b=false) (z:b≠34):tO b=true:=by
  cases j:tO b with
  |true=>rfl
  |false=>rw[ah j z] at h;cases h
theorem U3 {α:Type}(p:α→Bool) (l:List α):(l.dropWhile p).length≤l.length:=(dropWhile_suffix p).length_le
theorem O7 {α:Type}{p:α→Bool}: ∀{l:List α}{b:α}{t:List α},l.dropWhile p=b::t→p b=false
  |[],_,_,h=>by cases h
  | a::l,b,t,h=>by
    rw[dropWhile_cons] at h;cases j:p a with
    |true=>rw[aFz j] at h;exact O7 h
    |false=>rw[aFA (by simp [j])] at h;cases h;exact j
theorem a1y {α:Type}{p:α→Bool}: ∀(l:List α),∀x∈l.takeWhile p,p x=true
  |[],_,h=>by cases h
  | a::l,x,h=>by
    rw[takeWhile_cons] at h;cases j:p a with
    | true=>
      rw[aFz j] at h;rcases aFN.1 h with rfl|h
      .exact j
      .exact a1y l x h
    |false=>rw[aFA (by simp [j])] at h;cases h
def FO:pL→Bool
  |[]=>true
  |b::_=>tO b
def B4 (s:pL):Option (Wd×pL):=
  if s.head? =some 34 then
    match uC 34 (s.drop 1) with
    |none=>none
    |some k=>if (xA 2 ((s.drop 1).take k)).2.2=0∧sU (xA 2 ((s.drop 1).take k)).1=true∧FO (s.drop (k+2))=true then some ((true,(xA 2 ((s.drop 1).take k)).1,()),s.drop (k+2)) else none
  else if (s.dropWhile u6).head? =some 34 then none else some ((false,s.takeWhile u6,()),s.dropWhile u6)
def y8:Nat→pL→Option (List Wd)
  |0,_=>none
  | n+1,s=>if s.dropWhile tO=[] then some [] else match B4 (s.dropWhile tO) with
    |none=>none
    |some w=>(y8 n w.2).map (w.1:: ·)
def L7 (s:pL):Option (List Wd):=y8 (s.length+1) s
theorem Hm {b:UInt8}{t:pL}{w:Wd}{r:pL}(z:tO b=false) (h:B4 (b::t)=some (w,r)):r.length<(b::t).length:=by
  unfold B4 at h;split at h
  . split at h
    .cases h
    rename_i k D
    split at h
    . cases h
      rw[aGa];simp only[aFF];omega
    cases h
  rename_i j
  split at h
  .cases h
  cases h
  have hb:u6 b=true:=ah z fun e=>j (by rw[e];rfl);rw[dropWhile_cons,aFz hb];have:=U3 u6 t;simp only[aFF];omega
def B5 (n:Nat) (w:Wd):Prop:=if w.1=true then sU w.2.1=true else w.2.1.length≤n∧(∀b∈w.2.1,u6 b=true)∧w.2.1≠[]
theorem aAA {b:UInt8}{t:pL}{w:Wd}{r:pL}(F:tO b=false) (h:B4 (b::t)=some (w,r)):B5 (b::t).length w∧FO r=true:=by
  unfold B4 at h;split at h
  . split at h
    .cases h
    split at h
    . rename_i E
      cases h;exact⟨by unfold B5;rw[aFz rfl];exact E.2.1,E.2.2⟩
    cases h
  rename_i z
  split at h
  .cases h
  rename_i D
  cases h;have hb:u6 b=true:=ah F fun e=>z (by rw[e];rfl);refine⟨?_,?_⟩
  . unfold B5
    rw[aFA pR];exact⟨(takeWhile_prefix _).length_le,fun x j=>a1y _ x j,by rw[takeWhile_cons,aFz hb];simp⟩
  cases j:(b::t).dropWhile u6 with
  |nil=>rfl
  | cons c u=>
    rw[j] at D;exact aAz (O7 j) fun e=>D (by rw[e];rfl)
theorem a1z: ∀t:pL,indexAny t [32,9,34]=if t.dropWhile u6=[] then-1 else((t.takeWhile u6).length:Int)
  |[]=>rfl
  | b::t=>by
    rw[indexAny,a1z t,dropWhile_cons,takeWhile_cons];cases j:([32,9,34]:pL).contains b with
    | true=>
      have:u6 b=false:=by unfold u6;rw[j];rfl
      simp [this]
    | false=>
      have:u6 b=true:=by unfold u6;rw[j];rfl
      rw[aFA pR,aFz this,aFz this];by_cases h:t.dropWhile u6=[]
      . rw[aFz h,aFz h]
        rfl
      rw[aFA h,aFA h,aFA (by simp only[aHc];omega)]
      simp
theorem a1A {t:pL}{p:UInt8→Bool}:t.take (t.takeWhile p).length=t.takeWhile p∧t.drop (t.takeWhile p).length=t.dropWhile p:=by
  have h:t.takeWhile p++t.dropWhile p=t:=takeWhile_append_dropWhile;exact⟨(aFZ (List.take _) h.symm).trans (take_left' rfl),(aFZ (List.drop _) h.symm).trans (drop_left' rfl)⟩
theorem aAB {t:pL}{p:UInt8→Bool}(h:t.dropWhile p=[]):t.takeWhile p=t:=by
  have:=takeWhile_append_dropWhile (p:=p) (l:=t);rw[h,append_nil] at this;exact this
theorem aAC (x:pL):((decide ((([34]:pL).length:Int)≤(x.length:Int)))&&(decide ((sL x (0:Int) (([34]:pL).length:Int))=([34]:pL))))=decide (x.head? =some 34):=by
  cases x with
  |nil=>rfl
  | cons b t=>
    have h:sL (b::t) 0 (([34]:pL).length:Int)=[b]:=rfl;rw[h];have j:decide ((([34]:pL).length:Int)≤((b::t).length:Int))=true:=aGe (by simp only[aFF,aFS];omega);rw[j,Bool.true_and];simp
theorem aAD (x p:pL):PY x p=some ():=by
  unfold PY PQ;rw[aFz (fun h=>by simp only[aHc,aFI] at h;omega)];rfl
theorem aAE (r:pL):(((!decide (r=([]:pL)))&&(!decide ((sE r (0:Int))=(32:Int))))&&(!decide ((sE r (0:Int))=(9:Int))))= !FO r:=by
  cases r with
  |nil=>rfl
  | cons b t=>
    have hb:sE (b::t) 0=(b.toNat:Int):=rfl;rw[hb,DL (n:=32) 32 rfl,DL (n:=9) 9 rfl];show ((!decide (b::t=[])&& !decide (b=32))&& !decide (b=9))= !tO b;rw[decide_eq_false pR];unfold tO;by_cases j:b=32
    .subst j;rfl
    by_cases h:b=9
    .subst h;rfl
    simp [j,h]
theorem Hn {s:pL}(hs:s.length≤1100000000): ∃v,DK (s,(false,()))=some v∧
    (s.dropWhile tO=[]→v=(false,[],false,[],false))∧
    (s.dropWhile tO≠[]→match B4 (s.dropWhile tO) with
      |some w=>v=(w.1.1,w.1.2.1,true,w.2,false)
      |none=>v.2.2.1=false∧v.2.2.2.2=true):=by
  have hl:=U3 tO s;obtain⟨t,F⟩: ∃t,s.dropWhile tO=t:=⟨_,rfl⟩;rw[F] at hl;unfold DK;dsimp only;rw[show trimLeftS s ([32,9]:pL)=t from F,F];cases t with
  |nil=>exact⟨_,aFz rfl,fun _=>rfl,fun h=>absurd rfl h⟩
  | cons b u=>
    have hg:=O7 F;simp only[aFF] at hl;rw[aFA pR,aFz ⟨pP,by simp only[aFF];omega⟩];have hb:sE (b::u) 0=(b.toNat:Int):=rfl;by_cases j:b=34
    . subst j
      rw[aFA (by rw[hb];simp),aFz ⟨pP,by simp only[aFF];omega,aGI _⟩]
      have Z:sL ((34:UInt8)::u) 1 (((34:UInt8)::u).length:Int)=u:=by
        rw[show ((1:Int))=((1:Nat):Int) from rfl,O3];rfl
      have U:s9 u:=by unfold s9;omega
      rw[Z,show ((34:Int))=(((34:UInt8).toNat:Nat):Int) from rfl,a96 pQ pQ u 34 U,aFC]
      have I:B4 ((34:UInt8)::u)=match uC 34 u with
        |none=>none
        |some k=>if (xA 2 (u.take k)).2.2=0∧sU (xA 2 (u.take k)).1=true∧FO (u.drop (k+1))=true then some ((true,(xA 2 (u.take k)).1,()),u.drop (k+1)) else none:=by
        unfold B4;rw[aFz (show ((34:UInt8)::u).head? =some 34 from rfl)];rfl
      rw[I];cases hk:uC 34 u with
      | none=>
        rw[aFz qD];exact⟨_,rfl,fun h=>(by cases h),fun _=>⟨rfl,rfl⟩⟩
      | some k=>
        have hd:=ZZ _ _ _ (aFW _) hk;have E:s9 (u.take k):=by unfold s9;rw[aGh];omega
        have Y:sL ((34:UInt8)::u) 1 ((k:Int)+1)=u.take k:=by
          unfold sL;rw[show ((k:Int)+1).toNat=k+1 by omega];rfl
        have X:sL ((34:UInt8)::u) ((k:Int)+2) (((34:UInt8)::u).length:Int)=u.drop (k+1):=by
          rw[show ((k:Int)+2)=((k+2:Nat):Int) by omega,O3];rfl
        rw[show O6 (some k)=(k:Int) from rfl,aFA pR,aFz (show qM ((k:Int)+1) by unfold qM;omega),aFz ⟨pP,pP,by simp only[aFF];omega⟩];rw[Y,aAj pQ pQ E,aFC,aFz (show qM ((k:Int)+2) by unfold qM;omega),aFz ⟨pP,by simp only[aFF];omega,aGI _⟩];rw[X]
        have V:s9 (xA 2 (u.take k)).1:=by
          have:=a1r 2 (u.take k);unfold s9 at E|-;omega
        rw[aFz (fun _=>by rw[O5 _ V];rfl)]
        have z: ∀q:Bool,(q&&(!decide (u.drop (k+1)=([]:pL)))==true)=true→0≤(0:Int)∧(0:Int)<((u.drop (k+1)).length:Int):=fun q hq=>by
          simp only[aFL,aHc,aF2,aGd] at hq;have:=aGH.2 hq.2;omega
        rw[aFz (z _),aFz (fun hq=>z true (by
          simp only[aFL,aHc,aF2,aGd] at hq|-;exact⟨trivial,hq.2.1⟩))]
        simp only[aAE];refine⟨_,rfl,fun h=>(by cases h),fun _=>?_⟩;have Q:((decide ((List.length (xA 2 (u.take k)).1:Int)≤(4000:Int)))&&(validD (xA 2 (u.take k)).1))=sU (xA 2 (u.take k)).1:=rfl;simp only[Q];by_cases G:(xA 2 (u.take k)).2.2=0∧sU (xA 2 (u.take k)).1=true∧FO (u.drop (k+1))=true
        . rw[aFz G]
          obtain⟨O,M,h3⟩:=G;simp [O,M,h3]
        rw[aFA G]
        have:((!decide ((xA 2 (u.take k)).2.2=0))||(!sU (xA 2 (u.take k)).1)|| !FO (u.drop (k+1)))=true:=by
          cases O:decide ((xA 2 (u.take k)).2.2=0)<;>cases M:sU (xA 2 (u.take k)).1<;>cases h3:FO (u.drop (k+1))<;>first|rfl|exact absurd ⟨aGc O,M,h3⟩ G
        exact⟨by simp only[this];rfl,this⟩
    have hp:u6 b=true:=ah hg j
    rw[aFz (by rw[hb,DL (n:=34) 34 rfl];simp [j]),aFz (by simp only[aFF];omega)]
    have I:B4 (b::u)=if ((b::u).dropWhile u6).head? =some 34 then none else some ((false,(b::u).takeWhile u6,()),(b::u).dropWhile u6):=by
      unfold B4;rw[aFA (by simp [j])]
    rw[I];have R:PG (b::u) ([32,9,34]:pL)=if (b::u).dropWhile u6=[] then-1 else(((b::u).takeWhile u6).length:Int):=a1z _
    have hx:(if (decide (PG (b::u) ([32,9,34]:pL)<(0:Int)))=true then some (((b::u).length:Int)) else some (PG (b::u) ([32,9,34]:pL)))=(some (((b::u).takeWhile u6).length:Int)):=by
      rw[R];by_cases K:(b::u).dropWhile u6=[]
      .rw[aFz K,aFz qD,aAB K]
      rw[aFA K,aFA pR]
    have ha:((b::u).takeWhile u6).length≤(b::u).length:=(takeWhile_prefix _).length_le;rw[hx];unfold uO;rw[aFC,aFz ⟨aGI _,pP,pP⟩,aFz ⟨pP,pP,aGI _⟩,O3,a1b,a1A.1,a1A.2,aAD,aFC];simp only[aAC];refine⟨_,rfl,fun h=>(by cases h),fun _=>?_⟩;by_cases D:((b::u).dropWhile u6).head? =some 34
    . rw[aFz D]
      exact⟨by simp [D],by simp [D]⟩
    rw[aFA D]
    simp [D]
end
noncomputable section
theorem aAF (n:Nat):y8 (n+1) []=some []:=aFz rfl
theorem a1B: ∀(n:Nat) (s:pL) (out:List Wd) (v:Bool×pL×Bool×pL×Bool),s.length<n→s.length+out.length≤1100000000→DK (s,(false,()))=some v→
    ∃ r,s8 QA (out,v.2.2.1,v.2.2.2.1,v.2.2.2.2,v.1,v.2.1)=some r∧match y8 n s with
      |some l=>r.1=out++l∧r.2.2=false
      |none=>r.2.2=true
  |0,s,out,v,h,_,_=>by omega
  | n+1,s,out,v,h,hl,K=>by
    obtain⟨v',F,O,M⟩:=Hn (s:=s) pP;rw[K] at F;cases F;rw[y8];by_cases z:s.dropWhile tO=[]
    . rw[aFz z,O z,vF]
      refine⟨(out,[],false),?_,by simp,rfl⟩;unfold QA;dsimp only;rw[aFA pR,aFC]
    rw[aFA z]
    have hm:=M z;cases hw:B4 (s.dropWhile tO) with
    | none=>
      rw[hw] at hm;obtain⟨h3,h4⟩:v.2.2.1=false∧v.2.2.2.2=true:=hm;rw[vF];refine⟨(out,v.2.2.2.1,v.2.2.2.2),?_,h4⟩;unfold QA;dsimp only;rw[h3,aFA pR,aFC]
    | some w=>
      rw[hw] at hm;have hm:v=(w.1.1,w.1.2.1,true,w.2,false):=hm;subst hm;cases G:s.dropWhile tO with
      |nil=>exact absurd G z
      | cons b t=>
        rw[G] at hw;have Q:=Hm (O7 G) hw;have I:=U3 tO s;rw[G] at I;obtain⟨v2,E,_,_⟩:=Hn (s:=w.2) pP;obtain⟨r,hr,j⟩:=a1B n w.2 (out++[w.1]) v2 pP (by rw[aFD];simp only[aFF,aFS];omega) E;refine⟨r,?_,?_⟩
        . rw[vF]
          unfold QA;dsimp only;rw[aFz rfl,aFz (by simp only[aFF,aFS];omega),E,aFC,aFC];exact hr
        show match (y8 n w.2).map (w.1:: ·) with|some l=>r.1=out++l∧r.2.2=false|none=>r.2.2=true
        cases D:y8 n w.2 with
        |none=>rw[D] at j;exact j
        | some l=>
          rw[D] at j;obtain⟨h3,h4⟩:r.1=(out++[w.1])++l∧r.2.2=false:=j;exact⟨by rw[h3,aFO];rfl,h4⟩
theorem a1C {s:pL}(j:s.length≤1100000000): ∃r,FG s=some r∧match L7 s with
    |some l=>r=(l,true)
    |none=>r.2=false:=by
  obtain⟨v,h,_,_⟩:=Hn j;obtain⟨r,hr,hm⟩:=a1B (s.length+1) s [] v pP (by simpa using j) h;refine⟨(r.1,!r.2.2),?_,?_⟩
  . unfold FG
    rw[h,aFC];unfold uO;rw[hr,aFC]
  unfold L7
  cases hw:y8 (s.length+1) s with
  | none=>
    rw[hw] at hm;have hm:r.2.2=true:=hm;show (!r.2.2)=false;rw[hm];rfl
  | some l=>
    rw[hw] at hm;obtain⟨D,z⟩:r.1=[]++l∧r.2.2=false:=hm;show (r.1,!r.2.2)=(l,true);rw[D,z];rfl
theorem ai: ∀(n:Nat) (s:pL) (l:List Wd),y8 n s=some l→∀w∈l,B5 s.length w
  |0,_,_,h=>by cases h
  | n+1,s,l,h=>by
    rw[y8] at h;split at h
    .cases h;intro w hw;cases hw
    split at h
    .cases h
    rename_i w hw
    cases z:s.dropWhile tO with
    |nil=>rename_i h0 _;exact absurd z h0
    | cons b t=>
      rw[z] at hw;have G:=Hm (w:=w.1) (r:=w.2) (O7 z) hw;have F:=(aAA (w:=w.1) (r:=w.2) (O7 z) hw).1;have D:=U3 tO s;rw[z] at D
      have mono: ∀{a b:Nat}{x:Wd},a≤b→B5 a x→B5 b x:=fun I j=>by
        unfold B5 at j|-;split
        .rename_i E;rw[aFz E] at j;exact j
        rename_i E;rw[aFA E] at j;exact⟨pP,j.2⟩
      cases hl:y8 n w.2 with
      |none=>rw[hl] at h;cases h
      | some l'=>
        rw[hl] at h;cases h;intro x j;rcases aFN.1 j with rfl|j
        .exact mono D F
        exact mono pP (ai n w.2 l' hl x j)
theorem a1D: ∀(n:Nat) (s:pL) (l:List Wd),y8 n s=some l→s.dropWhile tO≠[]→l≠[]
  |0,_,_,h,_=>by cases h
  | n+1,s,l,h,j=>by
    rw[y8,aFA j] at h;split at h
    .cases h
    rename_i w hw
    cases hl:y8 n w.2 with
    |none=>rw[hl] at h;cases h
    |some l'=>rw[hl] at h;cases h;simp
end
noncomputable section
abbrev tW:Ty:= .pair .bool (.pair .str .unit)
def DM:pL:=[99,97,116,97,108,111,103]
def H3:pL:=[101,110,116,114,121]
def wF:pL:=[99,111,109,109,101,110,116]
def uK:pL:=[115,111,117,114,99,101]
def uL:pL:=[116,97,114,103,101,116]
def xN:pL:=[115,116,97,116,101]
def xB:pL:=[102,105,101,108,100]
def O8:pL:=[101,110,100]
def wW:pL:=[102,108,97,103,115]
inductive wQ where
  |bad
  |cont (t:pL)
  |beg (head:Bool) (t:pL)
  |com (t:pL)
  |src (t:pL)
  |tgt (t:pL)
  |sta (v:Int)
  |fld (n v:pL)
  |flg (l:pM)
  |fin
def tP:List Wd→Option pL
  |[w]=>if w.1=true then some w.2.1 else none
  |_=>none
def FP:List Wd→Option Int
  |[w]=>if w.1=false∧0≤A5 w.2.1 then some (A5 w.2.1) else none
  |_=>none
def FQ:List Wd→Option (pL×pL)
  |[a,b]=>if (a.1=true∧b.1=true)∧uU a.2.1=true then some (a.2.1,b.2.1) else none
  |_=>none
def tA (l:List Wd):pM:=l.map (·.2.1)
def FR (w:Wd):Bool:=w.1|| !uU w.2.1
def vM (k:pL) (r:List Wd):wQ:=
  if k=DM then((tP r).map (wQ.beg true)).getD .bad
  else if k=H3 then((tP r).map (wQ.beg false)).getD .bad
  else if k=wF then((tP r).map wQ.com).getD .bad
  else if k=uK then((tP r).map wQ.src).getD .bad
  else if k=uL then((tP r).map wQ.tgt).getD .bad
  else if k=xN then((FP r).map wQ.sta).getD .bad
  else if k=xB then((FQ r).map fun q=>wQ.fld q.1 q.2).getD .bad
  else if k=O8 then(if r=[] then .fin else .bad)
  else if k=wW then(if r=[]∨(r.any FR)=true then .bad else .flg (tA r))
  else .bad
def AN:List Wd→wQ
  |[]=> .bad
  |w::r=>if w.1=true then(if (r.any fun x=> !x.1)=true then .bad else .cont (tA (w::r)).flatten) else vM w.2.1 r
theorem U4 {l:List Wd}{i:Nat}(h:i<l.length):qR tW l (i:Int)=l[i]:=EF h
theorem aAG (w:Wd) (r:List Wd):((decide (((w::r).length:Int)=(2:Int)))&&(qR tW (w::r) (1:Int)).1)=(tP r).isSome:=by
  match r with
  |[]=>rfl
  | [a]=>
    show (true&&a.1)=_;unfold tP;cases h:a.1<;>simp [h]
  | a::b::t=>
    have:decide (((w::a::b::t).length:Int)=2)=false:=decide_eq_false (by simp only[aFF];omega);rw[this];rfl
def DN (l:pM):Bool:=decide ((compact (tS l)).length<(tS l).length)
theorem a1E {l:pM}(h:DN l=false):(tS l).Pairwise (· < ·):=by
  unfold DN at h;have K: ¬(compact (tS l)).length<(tS l).length:=of_decide_eq_false h;generalize G:tS l=s at K;have j:s.Pairwise (·≤·):=by rw[←G];exact Hc l
  have I:((List.range s.length).filter (keeps s.toArray)).length=(List.range s.length).length:=by
    have h3:(compact s).length=((List.range s.length).filter (keeps s.toArray)).length:=by
      unfold compact compactUpTo;rw[aG0]
    have h4:=length_filter_le (keeps s.toArray) (List.range s.length);rw[length_range] at h4|-;omega
  have h3:=length_filter_eq_length_iff.1 I;refine Hi (r:=fun a b:pL=>a<b) (fun a b c=>List.lt_trans) fun i hi=>?_;have F:=h3 (i+1) (aHf.2 hi)
  have z:s[i+1]≠s[i]:=by
    intro e
    have:=keeps_neg (d:=s.toArray) (m:=i+1) pP (by
      rw[Nat.add_sub_cancel,getElem!_pos s.toArray (i+1) (by simpa using hi),getElem!_pos s.toArray i pS];simpa using e)
    rw[this] at F;cases F
  have E:s[i]≤s[i+1]:=aGf.1 j i (i+1) pP hi pP;exact ag (a:=s[i+1]) (b:=s[i]) (fun D=>E D) z
theorem aAH {l:pM}(h:l.Pairwise (· < ·)):tS l=l:=by
  have j:l.Pairwise (·≤·):=h.imp fun D z=>List.lt_irrefl _ (List.lt_trans D z);have hp:=TZ l;exact hp.eq_of_pairwise (fun a b _ _ E j=>List.le_antisymm E j) (Hc l) j
theorem a1F {l:pM}(h:l.Pairwise (· < ·)):l.Nodup:=h.imp fun j e=>by subst e;exact List.lt_irrefl _ j
theorem aAI {l:pM}(h:l.Nodup):(tS l).Pairwise (· < ·):=by
  have G:(tS l).Nodup:=(TZ l).nodup_iff.2 h;have F:=Hc l;rw[aGf] at F|-;intro i j hi E z
  exact ag (fun D=>F i j hi E z D) fun e=>by
    have:=(nodup_iff_pairwise_ne.1 G);rw[aGf] at this;exact this i j hi E z e.symm
theorem aAJ (l:pM):DN l=false↔l.Nodup:=by
  constructor
  . intro h
    exact(TZ l).nodup_iff.1 (a1F (a1E h))
  intro h
  have E:=aAI h;unfold DN
  have:compact (tS l)=tS l:=compact_all (tS l) fun j z=>by
    cases j with
    |zero=>simp [keeps]
    | succ j=>
      refine keeps_pos ?_;rw[Nat.add_sub_cancel,getElem!_pos (tS l).toArray (j+1) (by simpa using z),getElem!_pos (tS l).toArray j pS];intro e;have D:=aGf.1 E j (j+1) pP z pP;simp only[getElem_toArray] at e;rw[e] at D;exact List.lt_irrefl _ D
  rw[this];exact decide_eq_false (aHk _)
end
noncomputable section
structure St where
  c:C4
  ends:pV
  id:pL
  sc:pL
  tg:pL
  cm:pM
  fg:pM
  sv:Int
  fd:List sX
  op:Bool
  bs:Bool
  bt:Bool
  bh:Bool
  bf:Bool
  last:pL
  name:pL
abbrev St.x (s:St):sN:=(s.id,(s.sc,(s.tg,(s.cm,(s.fg,(s.sv,(s.fd,())))))))
def yS (s:St) (c:C4) (t:pL):St:=⟨c,s.ends,t,[],[],[],[],0,[],true,false,false,false,false,[],[]⟩
def uP (c:C4) (ends:pV):St:=⟨c,ends,[],[],[],[],[],0,[],false,false,false,false,false,[],[]⟩
def DO (s:St):pL:=if s.last=wF then s.cm.getLastD [] else if s.last=uK then s.sc else if s.last=uL then s.tg else(J1 s.fd s.name).1
def A7 (s:St) (z:pL):St:=
  if s.last=wF then {s with cm:=s.cm.dropLast++[z]} else if s.last=uK then {s with sc:=z} else if s.last=uL then {s with tg:=z} else {s with fd:=zD s.fd s.name z}
def sD (s:St) (next:Int):wQ→Int×St
  | .bad=>(3,s)
  | .cont t=>if s.op=false∨s.last=[] then(3,s) else if sU (DO s++t)=true then(0,A7 s (DO s++t)) else(3,s)
  | .beg true t=>if s.op=true∨s.ends≠[] then(3,s) else if wN t=true then(0,yS s (t,s.c.2) t) else(3,s)
  | .beg false t=>if s.op=true∨s.ends=[] then(3,s) else if t=[]∨200<t.length then(3,s) else if (s.c.2.2.2.1.any fun y=>decide (y.1=t))=true then(9,s) else if 1000≤s.c.2.2.2.1.length then(6,s) else(0,yS s s.c t)
  | .com t=>if s.op=false then(3,s) else if 20≤s.cm.length then(6,s) else(0,{s with cm:=s.cm++[t],last:=wF,name:=[]})
  | .src t=>if s.op=false∨s.ends=[] then(3,s) else if s.bs=true then(9,s) else(0,{s with sc:=t,bs:=true,last:=uK,name:=[]})
  | .tgt t=>if s.op=false∨s.ends=[] then(3,s) else if s.bt=true then(9,s) else(0,{s with tg:=t,bt:=true,last:=uL,name:=[]})
  | .sta v=>if s.op=false∨s.ends=[] then(3,s) else if s.bh=true then(9,s) else(0,{s with sv:=v,bh:=true,last:=[],name:=[]})
  | .flg l=>if s.op=false∨s.ends=[] then(3,s) else if s.bf=true∨DN l=true then(9,s) else if 20<l.length then(6,s) else(0,{s with fg:=tS l,bf:=true,last:=[],name:=[]})
  | .fld n v=>if s.op=false then(3,s) else if (s.fd.any fun y=>decide (y.1=n))=true then(9,s) else if 20≤s.fd.length then(6,s) else(0,{s with fd:=zD s.fd n v,last:=xB,name:=n})
  | .fin=>if s.op=false then(3,s) else(0,uP (if s.ends=[] then(s.c.1,(s.cm,(s.fd,s.c.2.2.2))) else(s.c.1,(s.c.2.1,(s.c.2.2.1,(s.c.2.2.2.1++[s.x],()))))) (s.ends++[next]))
def DP (s:pL):Bool:=decide (s.dropWhile tO=[])||decide ((s.dropWhile tO).head? =some 35)
def tU (s:St) (line:pL) (next:Int):Int×St:=
  if DP line=true then(0,s) else match L7 line with
    |none=>(3,s)
    |some l=>sD s next (AN l)
structure yT (s:St):Prop where
  tag:s.ends≠[]∨s.op=true→wN s.c.1=true
  hcm:w8 s.c.2.1=true
  hfd:vQ s.c.2.2.1=true
  es:a1u s.c.2.2.2.1
  e0:s.ends=[]→s.c.2.2.2.1=[]
  en:s.ends≠[]→s.ends.length=s.c.2.2.2.1.length+1
  room:s.op=true→s.ends≠[]→s.c.2.2.2.1.length<1000
  sc:sU s.sc=true
  tg:sU s.tg=true
  cm:w8 s.cm=true
  fg:CJ s.fg=true
  sv:0≤s.sv∧s.sv≤4
  fd:vQ s.fd=true
  id:s.op=true→s.ends≠[]→s.id≠[]∧s.id.length≤200∧sU s.id=true∧∀y∈s.c.2.2.2.1,y.1≠s.id
  lcm:s.last=wF→s.cm≠[]
  lfd:s.last=xB→(s.fd.any fun y=>decide (y.1=s.name))=true
  lst:s.last=[]∨s.last=wF∨s.last=uK∨s.last=uL∨s.last=xB
  off:s.op=false→s.last=[]
def aj (n:Nat):wQ→Prop
  | .cont t=>t.length≤n
  | .beg _ t=>sU t=true
  | .com t=>sU t=true
  | .src t=>sU t=true
  | .tgt t=>sU t=true
  | .sta v=>0≤v∧v≤4
  | .fld n v=>uU n=true∧sU v=true
  | .flg l=>l≠[]∧l.length≤n∧∀x∈l,uU x=true
  |_=>True
theorem aAK (s:pL):A5 s≤4:=by
  unfold A5;cases h:wO.findIdx? fun x=>decide (x=s) with
  |none=>show (-1:Int)≤4;decide
  | some k=>
    have:=(aGE.1 h).1;show (k:Int)≤4;unfold wO at this;simp only[aFF,aFS] at this;omega
theorem U5: ∀(n:Nat) (s:pL) (l:List Wd),y8 n s=some l→(tA l).flatten.length≤s.length∧l.length≤s.length
  |0,_,_,h=>by cases h
  | n+1,s,l,h=>by
    rw[y8] at h;split at h
    .cases h;exact⟨aGu _,aGu _⟩
    split at h
    .cases h
    rename_i h0 _ w hw
    cases j:s.dropWhile tO with
    |nil=>exact absurd j h0
    | cons b t=>
      rw[j] at hw;have E:=O7 j;have z:=U3 tO s;rw[j] at z;have I:=Hm (w:=w.1) (r:=w.2) E hw
      have K:w.1.2.1.length+w.2.length≤(b::t).length:=by
        unfold B4 at hw;split at hw
        . split at hw
          .cases hw
          rename_i k D
          split at hw
          . cases hw
            have G:=a1r 2 (((b::t).drop 1).take k);have F:=ZZ _ _ _ (aFW _) D;show (xA 2 (((b::t).drop 1).take k)).1.length+((b::t).drop (k+2)).length≤(b::t).length;simp only[aGh,aGa,aFF] at G F|-;omega
          cases hw
        split at hw
        .cases hw
        cases hw
        have:=aFZ List.length (takeWhile_append_dropWhile (p:=u6) (l:=b::t));rw[aFD] at this;exact aG9 this
      cases hl:y8 n w.2 with
      |none=>rw[hl] at h;cases h
      | some l'=>
        rw[hl] at h;cases h;have ih:=U5 n w.2 l' hl;constructor
        . show (w.1.2.1++(tA l').flatten).length≤_
          rw[aFD];omega
        rw[aFF];omega
theorem a1G {n:Nat}{r:List Wd}{t:pL}(h: ∀w∈r,B5 n w) (ho:tP r=some t):sU t=true:=by
  unfold tP at ho;split at ho
  . rename_i w
    split at ho
    . rename_i hw
      cases ho;have:=h w pR;unfold B5 at this;rw[aFz hw] at this;exact this
    cases ho
  cases ho
theorem aAL {n:Nat}{l:List Wd}(h: ∀w∈l,B5 n w) (I:(tA l).flatten.length≤n) (G:l.length≤n):aj n (AN l):=by
  cases l with
  |nil=>exact trivial
  | cons w r=>
    have hr: ∀w∈r,B5 n w:=fun x z=>h x (aFK _ z);unfold AN;dsimp only;split
    . split
      .exact trivial
      exact I
    unfold vM
    have one: ∀(f:pL→wQ),(∀t,sU t=true→aj n (f t))→aj n (((tP r).map f).getD .bad):=fun f hf=>by
      cases ho:tP r with
      |none=>exact trivial
      |some t=>exact hf t (a1G hr ho)
    split
    .exact one _ fun t j=>j
    split
    .exact one _ fun t j=>j
    split
    .exact one _ fun t j=>j
    split
    .exact one _ fun t j=>j
    split
    .exact one _ fun t j=>j
    split
    . cases ho:FP r with
      |none=>exact trivial
      | some v=>
        unfold FP at ho;split at ho
        . split at ho
          . rename_i D
            cases ho;exact⟨D.2,aAK _⟩
          cases ho
        cases ho
    split
    . cases ho:FQ r with
      |none=>exact trivial
      | some q=>
        unfold FQ at ho;split at ho
        . rename_i a b
          split at ho
          . rename_i D
            cases ho;have hb:=hr b pR;unfold B5 at hb;rw[aFz D.1.2] at hb;exact⟨D.2,hb⟩
          cases ho
        cases ho
    split
    .split<;>exact trivial
    split
    . split
      .exact trivial
      rename_i E
      simp only[not_or,aGQ] at E;refine⟨by unfold tA;simpa using E.1,by unfold tA;rw[aG0];simp only[aFF] at G;omega,fun x z=>?_⟩;unfold tA at z;obtain⟨w',F,rfl⟩:=mem_map.1 z;have:=aGg.1 E.2 w' F;unfold FR at this;simpa using(fun h=>this (by rw[h];simp): ¬(!uU w'.2.1)=true)
    exact trivial
end
noncomputable section
theorem aAM {l:pM}(h:w8 l=true):l.length≤20:=(GZ h).1
theorem a1H {l:List sX}(h:vQ l=true):l.length≤20:=(H0 h).1
theorem aAN {l:List sX}{n:pL}(h:vQ l=true):sU (J1 l n).1=true:=by
  unfold J1;cases z:yQ l n with
  |none=>rfl
  | some k=>
    have j:=ZR z;show sU (l.getD k ([],[],())).2.1=true;rw[aFV,aFG j];exact((H0 h).2.1 _ (aGp j)).2.2
theorem aAO {s:St}(h:yT s):sU (DO s)=true:=by
  unfold DO;split
  . have j:=GZ h.cm
    cases hl:s.cm.getLast? with
    |none=>rw[getLastD_eq_getLast?,hl];rfl
    |some x=>rw[getLastD_eq_getLast?,hl];exact j.2 x (mem_of_getLast? hl)
  split
  .exact h.sc
  split
  .exact h.tg
  exact aAN h.fd
end
noncomputable section
theorem aAP {α:Type}{l:List α}:decide ((l.length:Int)=0)=decide (l=[]):=by cases l<;>simp<;>omega
theorem aAQ {s:St}(h:yT s):s.ends.length≤1001:=by
  have:=h.es.len;by_cases j:s.ends=[]
  .rw[j];exact aGu _
  rw[h.en j];omega
end
noncomputable section
theorem U6 {l:List sX}{n v:pL}(h:(l.any fun y=>decide (y.1=n))=false):zD l n v=l.take (uV l n)++[(n,v,())]++l.drop (uV l n):=by
  have:yQ l n=none:=by
    unfold yQ;rw[aGr];intro x j;have:=aGg.1 h x j;simpa using this
  unfold zD;rw[this];rfl
theorem a1I (l:List sX) (n v:pL):((zD l n v).any fun y=>decide (y.1=n))=true:=by
  unfold zD;cases j:yQ l n with
  | none=>
    show ((l.take (uV l n)++[(n,v,())]++l.drop (uV l n)).any _)=true;rw[any_append,any_append];simp
  | some k=>
    have h:=ZR j;show ((l.set k (n,v,())).any _)=true;rw[any_eq_true];exact⟨(n,v,()),mem_set h _,by simp⟩
theorem aAR {l:List sX}{n v:pL}(h:vQ l=true) (R:(l.any fun y=>decide (y.1=n))=true) (Q:sU v=true):vQ (zD l n v)=true:=by
  obtain⟨U,I,h3⟩:=H0 h;unfold zD;cases D:yQ l n with
  | none=>
    unfold yQ at D;rw[aGr] at D;obtain⟨x,z,K⟩:=any_eq_true.1 R;have:=D x z;rw[K] at this;cases this
  | some k=>
    have E:=ZR D;have F:=a9Q D E;show vQ (l.set k (n,v,()))=true;refine a1t (by rw[length_set];exact U) (fun x z=>?_) ?_
    . rcases mem_or_eq_of_mem_set z with z|rfl
      .exact⟨(I x z).1,(I x z).2.2⟩
      exact⟨by show uU n=true;rw[←F];exact(I _ (aGp E)).1,Q⟩
    rw[aGf] at h3|-
    intro i j hi G O;rw[length_set] at hi G
    have e: ∀m (hm:m<l.length),((l.set k (n,v,()))[m]'(by rw[length_set];exact hm)).1=(l[m]).1:=fun m hm=>by
      rw[getElem_set];split
      .rename_i M;subst M;exact F.symm
      rfl
    rw[e i hi,e j G];exact h3 i j hi G O
theorem aAS {l:pM}{t:pL}(h:w8 l=true) (hl:l.length<20) (z:sU t=true):w8 (l++[t])=true:=by
  obtain⟨_,D⟩:=GZ h;unfold w8;rw[aGe (by rw[aFD];simp only[aFF,aFS];omega),Bool.true_and,aF2,any_append];have:(l.any fun x=> !sU x)=false:=aGg.2 fun x j=>by rw[D x j];simp
  rw[this];simp [z]
theorem aAT {l:pM}{t:pL}(h:w8 l=true) (hl:l≠[]) (D:sU t=true):w8 (l.dropLast++[t])=true:=by
  obtain⟨F,E⟩:=GZ h;have j:=aGH.2 hl;unfold w8;rw[aGe (by rw[aFD,length_dropLast];simp only[aFF,aFS];omega),Bool.true_and,aF2,any_append];have:(l.dropLast.any fun x=> !sU x)=false:=aGg.2 fun x z=>by rw[E x (dropLast_subset _ z)];simp
  rw[this];simp [D]
theorem aAU {l:pM}(hl:l.length≤20) (D: ∀x∈l,uU x=true) (z:l.Pairwise (· < ·)):CJ l=true:=by
  unfold CJ;rw[aGe pP,Bool.and_true,aF2];rw[aGg];intro i hi;have hi:=aHf.1 hi;unfold TT;have j:l.getD i []=l[i]:=by rw[aFV,aFG hi];rfl
  rw[j,D _ (aGp hi)];by_cases h0:0<i
  . have h:l.getD (i-1) []=l[i-1]:=by rw[aFV,aFG pP];rfl
    rw[h,GY,aGe (aGf.1 z (i-1) i pP hi pP)];simp
  simp [h0]
theorem aAV {s:St}(h:yT s) (z:s.op=true) (j:s.ends≠[]):zF s.x=true:=by
  obtain⟨i1,i2,i3,_⟩:=h.id z j;unfold zF;dsimp only[St.x];rw[decide_eq_false i1,aGe (show (s.id.length:Int)≤200 by omega),i3,h.sc,h.tg,h.cm,h.fg,aGe h.sv.1,aGe h.sv.2,h.fd];rfl
theorem vR:wF≠[]∧uK≠[]∧uL≠[]∧xB≠[]∧uK≠wF∧uL≠wF∧xB≠wF∧wF≠xB∧uK≠xB∧uL≠xB:=by decide
theorem a1J (s:St) (z:pL):(A7 s z).c=s.c∧(A7 s z).ends=s.ends∧(A7 s z).id=s.id∧(A7 s z).fg=s.fg∧(A7 s z).sv=s.sv∧(A7 s z).op=s.op∧(A7 s z).bs=s.bs∧(A7 s z).bt=s.bt∧(A7 s z).bh=s.bh∧(A7 s z).bf=s.bf∧(A7 s z).last=s.last∧(A7 s z).name=s.name:=by
  unfold A7;split
  .exact⟨rfl,rfl,rfl,rfl,rfl,rfl,rfl,rfl,rfl,rfl,rfl,rfl⟩
  split
  .exact⟨rfl,rfl,rfl,rfl,rfl,rfl,rfl,rfl,rfl,rfl,rfl,rfl⟩
  split<;>exact⟨rfl,rfl,rfl,rfl,rfl,rfl,rfl,rfl,rfl,rfl,rfl,rfl⟩
theorem aAW {s:St}(h:yT s) (hl:s.last≠[]) {z:pL}(D:sU z=true):yT (A7 s z):=by
  unfold A7;split
  . rename_i E
    exact {h with cm:=aAT h.cm (h.lcm E) D,lcm:=fun _=>pR}
  split
  .exact {h with sc:=D}
  split
  .exact {h with tg:=D}
  rename_i E F h3
  have h4:s.last=xB:=by
    rcases h.lst with j|j|j|j|j
    .exact absurd j hl
    .exact absurd j E
    .exact absurd j F
    .exact absurd j h3
    exact j
  exact {h with fd:=aAR h.fd (h.lfd h4) D,lfd:=fun _=>a1I _ _ _}
theorem sv0:0≤(0:Int)∧(0:Int)≤4:=by decide
theorem aAX {s:St}(h:yT s) {n:Nat}{c:wQ}(G:aj n c) (next:Int) (h0:(sD s next c).1=0):yT (sD s next c).2:=by
  cases c with
  |bad=>cases h0
  | cont t=>
    rw[sD] at h0|-;split at h0
    .cases h0
    . rename_i z
      rw[aFA z];rw[not_or] at z;split at h0
      . rename_i D
        rw[aFz D];exact aAW h z.2 D
      .cases h0
  | beg M t=>
    cases M with
    | true=>
      rw[sD] at h0|-;split at h0
      .cases h0
      . rename_i z
        rw[aFA z];simp only[not_or,Decidable.not_not] at z;split at h0
        . rename_i D
          rw[aFz D];exact {tag:=fun _=>D,hcm:=h.hcm,hfd:=h.hfd,es:=h.es,e0:=h.e0,en:=h.en,room:=fun _ j=>absurd z.2 j,sc:=rfl,tg:=rfl,cm:=rfl,fg:=rfl,sv:=sv0,fd:=rfl,id:=fun _ j=>absurd z.2 j,lcm:=fun j=>(vR.1 j.symm).elim,lfd:=fun j=>(vR.2.2.2.1 j.symm).elim,lst:= .inl rfl,off:=fun j=>(by cases j)}
        .cases h0
    | false=>
      rw[sD] at h0|-;split at h0
      .cases h0
      . rename_i z
        rw[aFA z];rw[not_or] at z;split at h0
        .cases h0
        . rename_i D
          rw[aFA D];rw[not_or] at D;split at h0
          .cases h0
          . rename_i h3
            rw[aFA h3];split at h0
            .cases h0
            . rename_i h4
              rw[aFA h4];refine {tag:=fun _=>h.tag (.inl z.2),hcm:=h.hcm,hfd:=h.hfd,es:=h.es,e0:=h.e0,en:=h.en,room:=fun _ _=>(by show s.c.2.2.2.1.length<1000;omega),sc:=rfl,tg:=rfl,cm:=rfl,fg:=rfl,sv:=sv0,fd:=rfl,id:=fun _ _=>⟨D.1,(by show t.length≤200;omega),G,fun y O e=>h3 (any_eq_true.2 ⟨y,O,aGe (show y.1=t from e)⟩)⟩,lcm:=fun j=>(vR.1 j.symm).elim,lfd:=fun j=>(vR.2.2.2.1 j.symm).elim,lst:= .inl rfl,off:=fun j=>(by cases j)}
  | com t=>
    rw[sD] at h0|-;split at h0
    .cases h0
    . rename_i z
      rw[aFA z];split at h0
      .cases h0
      . rename_i D
        rw[aFA D];exact {h with cm:=aAS h.cm pP G,lcm:=fun _=>pR,lfd:=fun j=>(vR.2.2.2.2.2.2.2.1 j).elim,lst:= .inr (.inl rfl),off:=fun j=>absurd j z}
  | src t=>
    rw[sD] at h0|-;split at h0
    .cases h0
    . rename_i z
      rw[aFA z];rw[not_or] at z;split at h0
      .cases h0
      . rename_i D
        rw[aFA D];exact {h with sc:=G,lcm:=fun j=>(vR.2.2.2.2.1 j).elim,lfd:=fun j=>(vR.2.2.2.2.2.2.2.2.1 j).elim,lst:= .inr (.inr (.inl rfl)),off:=fun j=>absurd j z.1}
  | tgt t=>
    rw[sD] at h0|-;split at h0
    .cases h0
    . rename_i z
      rw[aFA z];rw[not_or] at z;split at h0
      .cases h0
      . rename_i D
        rw[aFA D];exact {h with tg:=G,lcm:=fun j=>(vR.2.2.2.2.2.1 j).elim,lfd:=fun j=>(vR.2.2.2.2.2.2.2.2.2 j).elim,lst:= .inr (.inr (.inr (.inl rfl))),off:=fun j=>absurd j z.1}
  | sta v=>
    rw[sD] at h0|-;split at h0
    .cases h0
    . rename_i z
      rw[aFA z];rw[not_or] at z;split at h0
      .cases h0
      . rename_i D
        rw[aFA D];exact {h with sv:=G,lcm:=fun j=>(vR.1 j.symm).elim,lfd:=fun j=>(vR.2.2.2.1 j.symm).elim,lst:= .inl rfl,off:=fun _=>rfl}
  | fld m v=>
    rw[sD] at h0|-;split at h0
    .cases h0
    . rename_i z
      rw[aFA z];split at h0
      .cases h0
      . rename_i D
        rw[aFA D];split at h0
        .cases h0
        . rename_i h3
          rw[aFA h3];exact {h with fd:=aAv h.fd h3 G.1 G.2 D,lcm:=fun j=>(vR.2.2.2.2.2.2.1 j).elim,lfd:=fun _=>a1I _ _ _,lst:= .inr (.inr (.inr (.inr rfl))),off:=fun j=>absurd j z}
  | flg l=>
    rw[sD] at h0|-;split at h0
    .cases h0
    . rename_i z
      rw[aFA z];rw[not_or] at z;split at h0
      .cases h0
      . rename_i D
        rw[aFA D];rw[not_or] at D;split at h0
        .cases h0
        . rename_i h3
          rw[aFA h3];have M:DN l=false:=by simpa using D.2
          exact {h with fg:=aAU (by rw[U0];omega) (fun x K=>G.2.2 x ((TZ l).mem_iff.1 K)) (a1E M),lcm:=fun j=>(vR.1 j.symm).elim,lfd:=fun j=>(vR.2.2.2.1 j.symm).elim,lst:= .inl rfl,off:=fun _=>rfl}
  | fin=>
    rw[sD] at h0|-;split at h0
    .cases h0
    rename_i z
    have F:s.op=true:=by simpa using z
    rw[aFA z];have I:=h.tag (.inr F);by_cases j:s.ends=[]
    . rw[aFz j]
      exact {tag:=fun _=>I,hcm:=h.cm,hfd:=h.fd,es:=h.es,e0:=fun E=>(by simp [uP] at E),en:=fun _=>(by show (s.ends++[next]).length=s.c.2.2.2.1.length+1;rw[j,h.e0 j];rfl),room:=fun E=>(by cases E),sc:=rfl,tg:=rfl,cm:=rfl,fg:=rfl,sv:=sv0,fd:=rfl,id:=fun E=>(by cases E),lcm:=fun E=>(vR.1 E.symm).elim,lfd:=fun E=>(vR.2.2.2.1 E.symm).elim,lst:= .inl rfl,off:=fun _=>rfl}
    rw[aFA j]
    have hr:=h.room F j;obtain⟨i1,i2,i3,i4⟩:=h.id F j;refine {tag:=fun _=>I,hcm:=h.hcm,hfd:=h.hfd,es:=⟨?_,?_,?_⟩,e0:=fun E=>(by simp [uP] at E),en:=fun _=>?_,room:=fun E=>(by cases E),sc:=rfl,tg:=rfl,cm:=rfl,fg:=rfl,sv:=sv0,fd:=rfl,id:=fun E=>(by cases E),lcm:=fun E=>(vR.1 E.symm).elim,lfd:=fun E=>(vR.2.2.2.1 E.symm).elim,lst:= .inl rfl,off:=fun _=>rfl}
    . show (s.c.2.2.2.1++[s.x]).length≤1000
      rw[aFD];simp only[aFF,aFS];omega
    . intro x K
      rcases aGl.1 (show x∈s.c.2.2.2.1++[s.x] from K) with K|K
      .exact h.es.ok x K
      rw[aFR.1 K];exact aAV h F j
    . show (s.c.2.2.2.1++[s.x]).Pairwise _
      rw[aHv];exact⟨h.es.pw,pairwise_singleton _ _,fun a Q b hb=>by rw[aFR.1 hb];exact i4 a Q⟩
    show (s.ends++[next]).length=(s.c.2.2.2.1++[s.x]).length+1
    rw[aFD,aFD,h.en j];rfl
def tQ:St:=uP ([],([],([],([],())))) []
theorem a1K:yT tQ:={tag:=fun h=>h.elim (fun h=>absurd rfl h) fun h=>(by cases h),hcm:=rfl,hfd:=rfl,es:=⟨aGu _,fun x j=>(by cases j),List.Pairwise.nil⟩,e0:=fun _=>rfl,en:=fun h=>absurd rfl h,room:=fun h=>(by cases h),sc:=rfl,tg:=rfl,cm:=rfl,fg:=rfl,sv:=sv0,fd:=rfl,id:=fun h=>(by cases h),lcm:=fun h=>(vR.1 h.symm).elim,lfd:=fun h=>(vR.2.2.2.1 h.symm).elim,lst:= .inl rfl,off:=fun _=>rfl}
theorem Ho {s:St}(h:yT s) (line:pL) (next:Int) (h0:(tU s line next).1=0):yT (tU s line next).2:=by
  unfold tU at h0|-;split at h0
  . rename_i j
    rw[aFz j];exact h
  rename_i j
  rw[aFA j];cases hw:L7 line with
  |none=>rw[hw] at h0;cases h0
  | some l=>
    rw[hw] at h0;exact aAX h (aAL (n:=line.length) (ai _ _ _ hw) (U5 _ _ _ hw).1 (U5 _ _ _ hw).2) next h0
end
noncomputable section
theorem aAY (s:St) (n:Int) (t:pL):(sD s n (.cont t)).2.c=s.c∧(sD s n (.cont t)).2.ends=s.ends∧(sD s n (.cont t)).2.id=s.id∧(sD s n (.cont t)).2.fg=s.fg∧(sD s n (.cont t)).2.sv=s.sv∧(sD s n (.cont t)).2.op=s.op∧(sD s n (.cont t)).2.bs=s.bs∧(sD s n (.cont t)).2.bt=s.bt∧(sD s n (.cont t)).2.bh=s.bh∧(sD s n (.cont t)).2.bf=s.bf∧(sD s n (.cont t)).2.last=s.last∧(sD s n (.cont t)).2.name=s.name:=by
  rw[sD];split
  .exact⟨rfl,rfl,rfl,rfl,rfl,rfl,rfl,rfl,rfl,rfl,rfl,rfl⟩
  split
  .exact a1J s _
  exact⟨rfl,rfl,rfl,rfl,rfl,rfl,rfl,rfl,rfl,rfl,rfl,rfl⟩
def uB (p:pL):pL:=if p.getLast? =some 10 then p.dropLast else p
theorem QI {r:List Wd}{t:pL}(h:tP r=some t):r=[(true,t,())]:=by
  unfold tP at h;split at h
  . rename_i w
    split at h
    . rename_i hw
      cases h;obtain⟨a,b,c⟩:=w;cases hw;rfl
    cases h
  cases h
theorem a1L {k:pL}{r:List Wd}{t:pL}(ho:tP r=some t):
    vM DM r= .beg true t∧vM H3 r= .beg false t∧vM wF r= .com t∧vM uK r= .src t∧vM uL r= .tgt t:=by
  have e1:H3≠DM∧wF≠DM∧uK≠DM∧uL≠DM∧wF≠H3∧uK≠H3∧uL≠H3∧uK≠wF∧uL≠wF∧uL≠uK:=by decide
  obtain⟨a1,a2,a3,a4,a5,a6,a7,a8,a9,a10⟩:=e1;refine⟨?_,?_,?_,?_,?_⟩<;>unfold vM
  .rw[aFz rfl,ho];rfl
  .rw[aFA a1,aFz rfl,ho];rfl
  .rw[aFA a2,aFA a5,aFz rfl,ho];rfl
  .rw[aFA a3,aFA a6,aFA a8,aFz rfl,ho];rfl
  rw[aFA a4,aFA a7,aFA a9,aFA a10,aFz rfl,ho];rfl
end
noncomputable section
def tI (s:pL) (i:Nat):Nat:=if 0≤indexByte (s.drop i) 10 then i+(indexByte (s.drop i) 10).toNat+1 else s.length
theorem U7 {s:pL}{i:Nat}(h:i<s.length):i<tI s i∧tI s i≤s.length:=by
  have hr:=PD (s.drop i) 10;rw[aGa] at hr;unfold tI;split<;>omega
theorem aAZ {s:pL}{a i:Nat}(E:a≤i) (hi:i<s.length) (z: ∀j (h:j<s.length),a≤j→j<i→s[j]≠10) (D:s[i]=10):((s.drop a).findIdx? fun b=>decide (b=10))=some (i-a):=by
  rw[aGE];refine⟨by rw[aGa];omega,?_,fun j F=>?_⟩
  . rw[getElem_drop]
    simp only[aFI];rw[←D];congr 1;omega
  rw[getElem_drop]
  simp only[aFI];exact z (a+j) pP pP pP
theorem aA0 {s:pL}{a:Nat}(z: ∀j (h:j<s.length),a≤j→s[j]≠10):((s.drop a).findIdx? fun b=>decide (b=10))=none:=by
  rw[aGr];intro x D;obtain⟨j,E,rfl⟩:=aGW D;rw[getElem_drop];simp only[aGd];rw[aGa] at E;exact z (a+j) pP pP
theorem aA1 {s:pL}{a i:Nat}(D:a≤i) (hi:i<s.length) (z: ∀j (h:j<s.length),a≤j→j<i→s[j]≠10) (E:s[i]=10):tI s a=i+1:=by
  unfold tI;rw[Hb,aAZ D hi z E];rw[show O6 (some (i-a))=((i-a:Nat):Int) from rfl,aFz pP,aGz];omega
theorem aA2 {s:pL}{a:Nat}(z: ∀j (h:j<s.length),a≤j→s[j]≠10):tI s a=s.length:=by
  unfold tI;rw[Hb,aA0 z];exact aFA pQ
def FS (s:pL) (a:Nat):pL:=(s.drop a).take (tI s a-a)
def BX (s:pL):Nat→St→Nat→(Nat×Int)⊕St
  |0,st,_=> .inr st
  | n +1,st,a=>if a<s.length then
      (if (tU st (uB (FS s a)) (tI s a:Nat)).1=0 then BX s n (tU st (uB (FS s a)) (tI s a:Nat)).2 (tI s a) else .inl (a,(tU st (uB (FS s a)) (tI s a:Nat)).1))
    else .inr st
def DQ (s:pL):(Nat×Int)⊕St:=match BX s (s.length+1) tQ 0 with
  | .inl q=> .inl q
  | .inr st=>if st.op=true∨st.ends=[] then .inl (s.length,3) else .inr st
theorem a1M {s:pL}: ∀(n:Nat) (st:St) (a:Nat) {st':St},yT st→BX s n st a= .inr st'→yT st'
  |0,st,a,st',h,e=>by cases e;exact h
  | n+1,st,a,st',h,e=>by
    rw[BX] at e;split at e
    . split at e
      . rename_i h0
        exact a1M n _ _ (Ho h _ _ h0) e
      cases e
    cases e;exact h
end
noncomputable section
def FT (l:List sX):List sX:=l.foldl (fun acc f=>zD acc f.1 f.2.1) []
theorem QJ (l:List sX) (n v:pL):FT (l++[(n,v,())])=zD (FT l) n v:=by
  unfold FT;rw[foldl_append];rfl
theorem aA3 {l:List sX}{n v:pL}(h:(l.any fun y=>decide (y.1=n))=false):(zD l n v).Perm (l++[(n,v,())]):=by
  rw[U6 h];have z:(l.take (uV l n)++l.drop (uV l n))=l:=aGZ _ _
  have j:(l.take (uV l n)++[(n,v,())]++l.drop (uV l n)).Perm (l.take (uV l n)++(l.drop (uV l n)++[(n,v,())])):=by
    rw[aFO];exact List.Perm.append_left _ perm_append_comm
  have h3:l.take (uV l n)++(l.drop (uV l n)++[(n,v,())])=l++[(n,v,())]:=by rw[←aFO,z]
  rw[h3] at j;exact j
theorem U8 {l l':List sX}(h:l.Perm l') (n:pL):(l.any fun y=>decide (y.1=n))=l'.any fun y=>decide (y.1=n):=h.any_eq
theorem QK {l:List sX}{n v:pL}:((l++[(n,v,())]).map (·.1)).Nodup↔(l.map (·.1)).Nodup∧(l.any fun y=>decide (y.1=n))=false:=by
  rw[map_append,nodup_append];constructor
  . rintro⟨j,_,h3⟩
    refine⟨j,aGg.2 fun x h=>?_⟩;have:=h3 x.1 (mem_map.2 ⟨x,h,rfl⟩) n pR;simpa using this
  rintro⟨j,D⟩
  refine⟨j,by simp,fun a z b hb=>?_⟩;obtain⟨x,h,rfl⟩:=mem_map.1 z;have hb:b=n:=by simpa using hb
  have:=aGg.1 D x h;rw[hb];simpa using this
theorem a1N {α:Type}{P:List α→Prop}(h0:P []) (j: ∀l x,P l→P (l++[x])) (l:List α):P l:=by
  have: ∀n (l:List α),l.length=n→P l:=by
    intro n
    induction n with
    |zero=>intro l hl;rw[aGD.1 hl];exact h0
    | succ n ih=>
      intro l hl;have h:l≠[]:=fun e=>by rw[e] at hl;cases hl
      rw[←dropLast_concat_getLast h];exact j _ _ (ih _ (by rw[length_dropLast,hl];rfl))
  exact this _ l rfl
theorem QL: ∀l:List sX,(l.map (·.1)).Nodup→(FT l).Perm l:=by
  refine a1N (fun _=>List.Perm.refl _) fun l x ih h=>?_;obtain⟨n,v,u⟩:=x;obtain⟨z,j⟩:=QK.1 h;rw[QJ];have hp:=ih z;exact(aA3 (by rw[U8 hp];exact j)).trans (hp.append_right _)
theorem Hp: ∀l:List sX,(l.map (·.1)).Nodup→(FT l).Pairwise (fun a b=>a.1<b.1):=by
  refine a1N (fun _=>List.Pairwise.nil) fun l x ih h=>?_;obtain⟨n,v,u⟩:=x;obtain⟨E,F⟩:=QK.1 h;rw[QJ];have hp:=QL l E;have D:((FT l).any fun y=>decide (y.1=n))=false:=by rw[U8 hp];exact F
  have j: ∀y∈FT l,y.1≠n:=fun y z=>by simpa using aGg.1 D y z
  rw[U6 D];unfold uV;refine Hj (fun y:sX=>y.1) (x:=(n,v,())) (ih E) j fun y z=>?_;rw[GY];have:decide (y.1=n)=false:=by simpa using j y z
  rw[this,Bool.or_false]
theorem a1O {l:List sX}{n v z:pL}(h:(l.any fun y=>decide (y.1=n))=false) (hl:l.Pairwise (fun a b=>a.1<b.1)):zD (zD l n v) n z=zD l n z∧J1 (zD l n v) n=(v,true):=by
  have I:uV l n≤l.length:=a9P l n;have D: ∀y∈l,y.1≠n:=fun y F=>by simpa using aGg.1 h y F
  have j:(l.take (uV l n)).length=uV l n:=by rw[aGh];omega
  have E:yQ (l.take (uV l n)++[(n,v,())]++l.drop (uV l n)) n=some (uV l n):=by
    unfold yQ;rw[aFO,List.findIdx?_append]
    have:((l.take (uV l n)).findIdx? fun x=>decide (x.1=n))=none:=by
      rw[aGr];intro x G;simpa using D x (mem_of_mem_take G)
    rw[this,j,aHs,aHd];simp
  constructor
  . rw[U6 h,U6 h]
    unfold zD;rw[E];show (l.take (uV l n)++[(n,v,())]++l.drop (uV l n)).set (uV l n) (n,z,())=_;rw[aFO,set_append_right _ _ pP,j,aG8];simp
  rw[U6 h]
  unfold J1;rw[E];show ((((l.take (uV l n)++[(n,v,())]++l.drop (uV l n)).getD (uV l n) ([],[],())).2.1,true):pL×Bool)=(v,true);rw[aFV,aFO,aFJ pP,j,aG8];rfl
theorem aA4 {l:List sX}(h:(l.map (·.1)).Nodup) (hl:l.length≤1000):Bs.blocks_sorted l=some (FT l,l.length):=by
  have I:Bs.slices_Collect_api_Field_api_Field_F1 l=some l:=by
    have D: ∀(m acc:List sX),m.length+acc.length≤1000→Vc.AX Bs.slices_AppendSeq_api_Field_api_Field_F1_step1 m acc=some (.inl (acc++m)):=by
      intro m
      induction m with
      |nil=>intro acc _;show some (Sum.inl acc)=_;rw[append_nil]
      | cons x m ih=>
        intro acc X;simp only[aFF] at X
        have hst:Bs.slices_AppendSeq_api_Field_api_Field_F1_step1 x acc=some (.inl (acc++[x])):=by
          unfold Bs.slices_AppendSeq_api_Field_api_Field_F1_step1;rw[aFz (by simp only[aFF,aFS];omega)]
        show (Bs.slices_AppendSeq_api_Field_api_Field_F1_step1 x acc).bind _=_;rw[hst,aFC];show Vc.AX Bs.slices_AppendSeq_api_Field_api_Field_F1_step1 m (acc++[x])=_;rw[ih _ (by rw[aFD];simp only[aFF,aFS];omega),aFO];rfl
    unfold Bs.slices_Collect_api_Field_api_Field_F1 Bs.slices_AppendSeq_api_Field_api_Field_F1;rw[aFz pP];have:=D l [] (by simpa using hl);rw[show SB l=l from rfl,this];unfold tN;rfl
  have V:vX l=FT l:=by
    obtain⟨O,M⟩:=Sh l
    have hp:(vX l).Perm l:=by
      have:=O.2.2
      have e1:(vX l).toArray.extract 0 l.length=(vX l).toArray:=by
        rw[show l.length=(vX l).toArray.size from(Y9 l).symm];simp
      have e2:l.toArray.extract 0 l.length=l.toArray:=by
        rw[show l.length=l.toArray.size by simp];simp
      rw[e1,e2] at this;simpa using this
    have Q:=QL l h
    have F:(vX l).Pairwise (fun a b=> ¬b.1<a.1):=by
      rw[aGf];intro i j hi E z;have K:=M i j (aGu _) z (by rw[Y9] at E;exact E);rw[getElem!_pos (vX l).toArray i (by simpa using hi),getElem!_pos (vX l).toArray j (by simpa using E)] at K;simp only[getElem_toArray] at K;intro U;unfold ltOf E6 at K;exact of_decide_eq_false K ((lg _ _).2 U)
    have R:((vX l).map (·.1)).Nodup:=(hp.map _).nodup_iff.2 h
    have G:(vX l).Pairwise (fun a b=>a.1<b.1):=by
      rw[aGf] at F|-;intro i j hi E z;refine ag (F i j hi E z) fun e=>?_;have:=aGf.1 (nodup_iff_pairwise_ne.1 R) i j (by simpa using hi) (by simpa using E) z;rw[getElem_map,getElem_map] at this;exact this e.symm
    exact(hp.trans Q.symm).eq_of_pairwise (fun a b _ _ O M=>absurd M (List.lt_asymm O)) G (Hp l h)
  unfold Bs.blocks_sorted Bs.slices_SortedFunc_api_Field_api_Field_F1_blocks_sortedF1;rw[I,aFC,aFz pP,aFC,V]
theorem Hq {l:List Wd}{p:pL}{i:Nat}(h:i<l.length) (hp:i<p.length) (hl:l.length≤10):PP l p (i:Int)=if (l[i].1==decide (p[i]=115))=true then some (.inl ((i:Int)+1)) else some (.inr (.inr false)):=by
  unfold PP;rw[aFz (uX h),aFz (tE h),aFz (tE hp),U4 h,IZ hp,DL (n:=115) 115 rfl,aFz (vK pP)];cases(l[i].1==decide (p[i]=115))<;>rfl
theorem a1P {l:List Wd}{p:pL}:PP l p (l.length:Int)=some (.inr (.inl ())):=by
  unfold PP;rw[aFA (wM _)]
theorem ak (l:List Wd) (c:UInt8):zA l [c]=some (match l with|[a]=>a.1==decide (c=115) |_=>false):=by
  match l with
  |[]=>unfold zA;rfl
  | [a]=>
    unfold zA;rw[aFA pR,show ((0:Int))=((0:Nat):Int) from rfl,vF,Hq (l:=[a]) (p:=[c]) (i:=0) pR pR pR];show tN (Option.bind (if (a.1==decide (c=115))=true then _ else _) _) _=some (a.1==decide (c=115));cases(a.1==decide (c=115)) with
    |false=>rfl
    | true=>
      rw[aFz rfl,aFC];dsimp only;rw[show (((0:Nat):Int)+1)=(([a]:List Wd).length:Int) from rfl,vF,a1P];rfl
  | a::b::t=>
    unfold zA;rw[aFz (by simp only[aF2,aGd,aFF,aFS];omega)]
theorem aA5 (l:List Wd):zA l [115,115]=some (match l with|[a,b]=>a.1&&b.1|_=>false):=by
  match l with
  |[]=>unfold zA;rfl
  |[a]=>unfold zA;rfl
  | [a,b]=>
    unfold zA;rw[aFA pR,show ((0:Int))=((0:Nat):Int) from rfl,vF,Hq (l:=[a,b]) (p:=[115,115]) (i:=0) pR pR pR];show tN (Option.bind (if (a.1==true)=true then _ else _) _) _=some (a.1&&b.1);cases a.1 with
    |false=>rfl
    | true=>
      rw[aFz (show (true==true)=true from rfl),aFC];dsimp only;rw[show (((0:Nat):Int)+1)=((1:Nat):Int) from rfl,vF,Hq (l:=[a,b]) (p:=[115,115]) (i:=1) pR pR pR];show tN (Option.bind (if (b.1==true)=true then _ else _) _) _=some (true&&b.1);cases b.1 with
      |false=>rfl
      | true=>
        rw[aFz (show (true==true)=true from rfl),aFC];dsimp only;rw[show (((1:Nat):Int)+1)=(([a,b]:List Wd).length:Int) from rfl,vF,a1P];rfl
  | a::b::c::t=>
    unfold zA;rw[aFz (by simp only[aF2,aGd,aFF,aFS];omega)]
theorem Hr (l:List Wd):zA l [115]=some (tP l).isSome:=by
  rw[ak];unfold tP
  match l with
  |[]=>rfl
  |[a]=>cases h:a.1<;>simp [h]
  |a::b::t=>rfl
end
noncomputable section
abbrev Mp:=pT
structure Pg where
  c:C4
  pl:Int
  id:pL
  sc:pL
  tg:pL
  fg:pM
  sv:Int
  ap:Nat
  ends:pV
  cm:Option pM
  n1:Nat
  fl:Option (List sX)
  n2:Nat
  seen:Mp
  ids:Mp
def L8 (k:pL):Nat:=if k=uK then 1 else if k=uL then 2 else if k=wF then 3 else if k=xB then 4 else 0
structure EG (s:St) (P:Pg):Prop where
  c:P.c=s.c
  ends:P.ends=s.ends
  pl:P.pl=if s.op=true then(if s.ends=[] then 1 else 3) else(if s.ends=[] then 0 else 2)
  x:s.op=true→P.sc=s.sc∧P.tg=s.tg∧P.fg=s.fg∧P.sv=s.sv∧P.cm=some s.cm
  id:s.op=true→s.ends≠[]→P.id=s.id
  fl:s.op=true→∃l,P.fl=some l∧FT l=s.fd∧(l.map (·.1)).Nodup∧(s.last=xB→∃l' v,l=l'++[(s.name,v,())])
  ap:P.ap=L8 s.last
  seen:s.op=true→sT .str .bool P.seen uK=s.bs∧sT .str .bool P.seen uL=s.bt∧sT .str .bool P.seen xN=s.bh∧sT .str .bool P.seen wW=s.bf
  ids: ∀t,sT .str .bool P.ids t=((s.c.2.2.2.1.any fun y=>decide (y.1=t))||((s.op&&decide (s.ends≠[]))&&decide (s.id=t)))
  live:s.op=true∨s.ends≠[]
abbrev L9:=Int×pL×pM×(List r6)×(List sN)×Int×pL×pL×pL×pM×Int×Nat×pV×pT×(Option pM)×Nat×(Option (List r6))×Nat×pT
def Hs (v:L9):Pg:=
  ⟨(v.2.1,(v.2.2.1,(v.2.2.2.1,(v.2.2.2.2.1,())))),v.2.2.2.2.2.1,v.2.2.2.2.2.2.1,v.2.2.2.2.2.2.2.1,v.2.2.2.2.2.2.2.2.1,v.2.2.2.2.2.2.2.2.2.1,v.2.2.2.2.2.2.2.2.2.2.1,v.2.2.2.2.2.2.2.2.2.2.2.1,v.2.2.2.2.2.2.2.2.2.2.2.2.1,v.2.2.2.2.2.2.2.2.2.2.2.2.2.2.1,v.2.2.2.2.2.2.2.2.2.2.2.2.2.2.2.1,v.2.2.2.2.2.2.2.2.2.2.2.2.2.2.2.2.1,v.2.2.2.2.2.2.2.2.2.2.2.2.2.2.2.2.2.1,v.2.2.2.2.2.2.2.2.2.2.2.2.2.2.2.2.2.2,v.2.2.2.2.2.2.2.2.2.2.2.2.2.1⟩
def CK (A:Option L9) (r:Int×St):Prop:= ∃v,A=some v∧v.1=r.1∧(r.1=0→EG r.2 (Hs v))
theorem vS {A:Option L9}{e:Int}{s:St}{v:L9}(h:A=some v) (z:v.1=e) (j:e≠0):CK A (e,s):=⟨v,h,z,fun h0=>absurd h0 j⟩
theorem H4 {A:Option L9}{s:St}{v:L9}(h:A=some v) (j:v.1=0) (hr:EG s (Hs v)):CK A (0,s):=⟨v,h,j,fun _=>hr⟩
theorem U9:L8 wF=3:=by decide
theorem UA:L8 uK=1:=by decide
theorem UB:L8 uL=2:=by decide
theorem UC:L8 xB=4:=by decide
theorem O9:L8 []=0:=by decide
theorem a1Q {s:St}(h:yT s):L8 s.last=0↔s.last=[]:=by
  constructor
  . intro h0
    rcases h.lst with e|e|e|e|e
    .exact e
    .rw[e,U9] at h0;cases h0
    .rw[e,UA] at h0;cases h0
    .rw[e,UB] at h0;cases h0
    rw[e,UC] at h0;cases h0
  intro h0;rw[h0];exact O9
theorem a1R {l:List Wd}(hl:l.length≤1100000000) {sc tg:pL}{o1:Option pM}{n1:Nat}{o2:Option (List sX)}{n2:Nat}: ∀(n i:Nat) (a:pL),i+n=l.length→a.length+(tA (l.drop i)).flatten.length≤9000000000000000000→
    s8 (Q2 sc tg l o1 n1 o2 n2) (a,(i:Int))=some (if ((l.drop i).any fun x=> !x.1)=true then .inr (3,sc,tg,o1,n1,o2,n2) else .inl (a++(tA (l.drop i)).flatten))
  | 0,i,a,hi,_=>by
    have:i=l.length:=by omega
    subst this;rw[aGs,vF];unfold Q2;dsimp only;rw[aFA (wM _),aFA pR];show some (Sum.inl a)=some (Sum.inl (a++[]));rw[append_nil]
  | n+1,i,a,hi,hb=>by
    have h:i<l.length:=by omega
    have j:(tA (l.drop i)).flatten=l[i].2.1++(tA (l.drop (i+1))).flatten:=by
      unfold tA;rw[aGb h,aGB,aGq]
    rw[j,aFD] at hb;rw[vF];generalize z:s8 (Q2 sc tg l o1 n1 o2 n2)=F;unfold Q2;dsimp only;rw[aFz (uX h),aFz (tE h),U4 h,j,aGb h,any_cons];cases hq:l[i].1 with
    |false=>rfl
    | true=>
      rw[aFA pR,aFz (by rw[aFD];omega),aFz (vK pP),aFC];dsimp only;rw[←z,show ((i:Int)+1)=((i+1:Nat):Int) by omega,a1R hl n (i+1) _ pP (by rw[aFD];omega),aFO];rfl
def Ht (P:Pg) (l:List Wd):Option L9:=
    (AM P.c P.pl P.id P.sc P.tg P.fg P.sv P.ap (P.ends,()) l P.cm P.n1 P.fl P.n2 P.seen P.ids).bind fun O=>
    some ((O.1,P.c.1,P.c.2.1,P.c.2.2.1,P.c.2.2.2.1,P.pl,P.id,O.2.1,O.2.2.1,P.fg,P.sv,P.ap,P.ends,P.ids,O.2.2.2.1,O.2.2.2.2.1,O.2.2.2.2.2.1,O.2.2.2.2.2.2,P.seen))
theorem aA6 {α:Type}{l:List α}{z:α}(h:l≠[]):l.set (l.length-1) z=l.dropLast++[z]:=by
  have j:=aGH.2 h
  conv=>lhs;rw[←dropLast_concat_getLast h]
  rw[set_append_right _ _ (by rw[length_dropLast];simp [length_dropLast])];simp [length_dropLast]
theorem aA7 {s:St}(h:yT s) {P:Pg}(hr:EG s P) {l:List Wd}(hl:l.length≤1100000000) (ht:(tA l).flatten.length≤1100000000) (next:Int):
    CK (Ht P l) (if (l.any fun x=> !x.1)=true then(3,s) else sD s next (.cont (tA l).flatten)):=by
  have Y:=BW (aAO h);have G:=a1R (sc:=P.sc) (tg:=P.tg) (o1:=P.cm) (n1:=P.n1) (o2:=P.fl) (n2:=P.n2) hl l.length 0 [] pP (by rw[aGJ,aFS];omega);rw[aGJ] at G;unfold Ht AM;rw[show ((0:Int))=((0:Nat):Int) from rfl,G];by_cases O:(l.any fun x=> !x.1)=true
  . rw[aFz O,aFz O]
    exact vS rfl rfl pQ
  rw[aFA O,aFA O]
  unfold tN;rw[aFC];dsimp only;rw[nil_append];have Z:((3:Int))=3:=rfl;rw[sD];by_cases j:s.last=[]
  . have E:P.ap=0:=by rw[hr.ap];exact(a1Q h).2 j
    rw[aFA (by rw[E];simp),aFz rfl,aFz (.inr j)];exact vS rfl rfl pQ
  have E:P.ap≠0:=fun e=>j ((a1Q h).1 (by rw[←hr.ap];exact e))
  have D:s.op=true:=by
    cases ho:s.op with
    |true=>rfl
    |false=>exact absurd (h.off ho) j
  obtain⟨x1,x2,x3,x4,x5⟩:=hr.x D;obtain⟨fl,f1,f2,f3,f4⟩:=hr.fl D;rw[aFz (by rw[decide_eq_false E];rfl),x5,f1,aFC,aFC,aFA (by rw[D];simp [j])]
  have M:M2 P.ap P.sc P.tg (G4 s.cm) (JM fl)=DO s:=by
    rw[hr.ap,x1,x2];unfold M2 DO;rcases h.lst with e|e|e|e|e
    .exact absurd e j
    . rw[e,U9,aFA pQ,aFA pQ,aFz rfl,aFz rfl]
      unfold G4;have U:=aGH.2 (h.lcm e);rw[aFV,getLastD_eq_getLast?,List.getLast?_eq_getElem?]
    .rw[e,UA,aFz rfl,aFA pQ,aFz rfl]
    .rw[e,UB,aFA pQ,aFz rfl,aFA pQ,aFA pQ,aFz rfl]
    obtain⟨l',v,e2⟩:=f4 e
    rw[e,UC,aFA pQ,aFA pQ,aFA pQ,aFA pQ,aFA pQ,aFA pQ,←f2,e2,QJ];rw[e2] at f3;obtain⟨g1,g2⟩:=QK.1 f3;rw[(a1O (v:=v) (z:=v) (by rw[U8 (QL l' g1)];exact g2) (Hp l' g1)).2];unfold JM;simp
  unfold BF;rw[M];dsimp only;have K:s9 (DO s++(tA l).flatten):=by unfold s9;rw[aFD];omega
  rw[aFz (fun _=>E),aFz (fun _=>by rw[aFD];omega),aFz (fun _=>by rw[O5 _ K];rfl),decide_eq_false E,Bool.false_or];have Q:((decide (((DO s++(tA l).flatten).length:Int)≤(4000:Int)))&&(validD (DO s++(tA l).flatten)))=sU (DO s++(tA l).flatten):=rfl;rw[Q];cases X:sU (DO s++(tA l).flatten) with
  |false=>exact vS rfl rfl pQ
  | true=>
    rw[aFA pR,aFz rfl];refine H4 rfl rfl ?_;obtain⟨k1,k2,k3,k4,k5,k6,k7,k8,k9,k10,k11,k12⟩:=a1J s (DO s++(tA l).flatten);generalize hz:DO s++(tA l).flatten=z at*;have F:=hr.ap;refine {c:=hr.c.trans k1.symm,ends:=hr.ends.trans k2.symm,pl:= ?_,x:=fun _=>?_,id:=fun _ R=>?_,fl:=fun _=>?_,ap:=hr.ap.trans (by rw[k11]),seen:=fun _=>?_,ids:=fun t=>?_,live:= ?_}
    .rw[k6,k2];exact hr.pl
    . show M3 (true&&decide (P.ap=1)) z P.sc=_∧M3 (true&&decide (P.ap=2)) z P.tg=_∧P.fg=_∧P.sv=_∧some (G5 (true&&decide (P.ap=3)) z s.cm)=some _
      rw[k4,k5,F,x1,x2];unfold A7;rcases h.lst with e|e|e|e|e
      .exact absurd e j
      . rw[aFz e,e,U9]
        refine⟨rfl,rfl,x3,x4,?_⟩;have:=aA6 (z:=z) (h.lcm e);unfold G5;rw[aFz qD,this]
      . rw[aFA (by rw[e];decide),aFz e,e,UA]
        exact⟨rfl,rfl,x3,x4,rfl⟩
      . rw[aFA (by rw[e];decide),aFA (by rw[e];decide),aFz e,e,UB]
        exact⟨rfl,rfl,x3,x4,rfl⟩
      rw[aFA (by rw[e];decide),aFA (by rw[e];decide),aFA (by rw[e];decide),e,UC]
      exact⟨rfl,rfl,x3,x4,rfl⟩
    .rw[k3];rw[k2] at R;exact hr.id D R
    . show∃l,some (G6 (true&&decide (4≤P.ap)) z fl)=some l∧_
      rw[k11,k12,F];refine⟨_,rfl,?_⟩;unfold A7;rcases h.lst with e|e|e|e|e
      .exact absurd e j
      . rw[aFz e,e,U9]
        exact⟨f2,f3,fun h0=>absurd h0 vR.2.2.2.2.2.2.2.1⟩
      . rw[aFA (by rw[e];decide),aFz e,e,UA]
        exact⟨f2,f3,fun h0=>absurd h0 vR.2.2.2.2.2.2.2.2.1⟩
      . rw[aFA (by rw[e];decide),aFA (by rw[e];decide),aFz e,e,UB]
        exact⟨f2,f3,fun h0=>absurd h0 vR.2.2.2.2.2.2.2.2.2⟩
      obtain⟨l',v,e2⟩:=f4 e
      rw[aFA (by rw[e];decide),aFA (by rw[e];decide),aFA (by rw[e];decide),e,UC]
      have I:G6 (true&&decide (4≤4)) z fl=l'++[(s.name,z,())]:=by
        unfold G6;rw[aFz qD,e2];have V:(l'++[(s.name,v,())]).getD ((l'++[(s.name,v,())]).length-1) ([],[],())=(s.name,v,()):=by simp
        rw[V];simp
      rw[I];rw[e2] at f3;obtain⟨g1,g2⟩:=QK.1 f3;refine⟨?_,QK.2 ⟨g1,g2⟩,fun _=>⟨l',z,rfl⟩⟩;rw[QJ,←f2,e2,QJ];exact(a1O (by rw[U8 (QL l' g1)];exact g2) (Hp l' g1)).1.symm
    .rw[k7,k8,k9,k10];exact hr.seen D
    .rw[k1,k2,k3,k6];exact hr.ids t
    rw[k2,k6];exact hr.live
end
noncomputable section
theorem a1S (v:pL):F4 wO v=some (A5 v):=by
  rw[a9L wO v (by unfold s9;decide)];unfold A5;simp only[eq_comm]
theorem aA8 (v:pL):IN wO v=some (decide (0≤A5 v)):=by
  unfold IN;rw[a1S];rfl
theorem y9 {α:Type}{w:α}{r:List α}:0≤(0:Int)∧(0:Int)<((w::r).length:Int):=⟨aGI _,by simp only[aFF];omega⟩
section
variable (c:sB) (pl:Int) (id sc tg:pL) (fg:pM) (sv:Int) (en:pV×Unit) (r:List Wd) (cm:pM) (fl:List r6) (seen ids:Mp)
theorem aA9 (h:cm.length≤20):DB c pl id sc tg fg sv en r cm fl seen ids=some (match tP r with|none=>(3,0,cm) |some t=>if cm.length=20 then(6,0,cm) else(0,3,cm++[t])):=by
  unfold DB;rw[Hr,aFC];cases ho:tP r with
  |none=>rfl
  | some t=>
    rw[QI ho,aFA pR];dsimp only;by_cases j:cm.length=20
    .rw[aFz pS,aFz j]
    have z:qR rK [(true,t,())] (0:Int)=(true,t,()):=rfl
    rw[aFA pS,aFA j,aFz y9,aFz (by simp only[aFF,aFS];omega),z,aFz (by rw[aFD];simp only[aFF,aFS];unfold qM;omega),aFz (by rw[aFD];simp only[aFF,aFS];omega)]
theorem aBa (h:fl.length≤20):s9 fl:=by unfold s9;omega
theorem aBb (h:fl.length≤20):DG c pl id sc tg fg sv en r cm fl seen ids=some (match FQ r with|none=>(3,0,fl) |some q=>if (fl.any fun y=>decide (y.1=q.1))=true then(9,0,fl) else if fl.length=20 then(6,0,fl) else(0,4,fl++[(q.1,q.2,())])):=by
  unfold DG;rw[aA5,aFC]
  match r with
  |[]=>rfl
  |[a]=>rfl
  | [a,b]=>
    have G:qR rK [a,b] (0:Int)=a:=rfl;have F:qR rK [a,b] (1:Int)=b:=rfl;have E:0≤(1:Int)∧(1:Int)<(List.length [a,b]:Int):=by simp
    rw[G,F,ZQ];dsimp only;rw[aFz (fun _=>y9),aFz (fun _=>Option.isSome_some)];show (if ((!(a.1&&b.1))||(!uU a.2.1))=true then _ else _)=_
    have hf:FQ [a,b]=if (a.1=true∧b.1=true)∧uU a.2.1=true then some (a.2.1,b.2.1) else none:=rfl;by_cases j:(a.1=true∧b.1=true)∧uU a.2.1=true
    . rw[hf,aFz j]
      obtain⟨⟨D,z⟩,h3⟩:=j;rw[aFA (by rw[D,z,h3];simp),aFz y9,a9O _ _ (aBa fl h),aFC,a9M];dsimp only;by_cases h4:(fl.any fun y=>decide (y.1=a.2.1))=true
      .rw[aFz h4,aFz h4]
      rw[aFA h4,aFA h4]
      by_cases I:fl.length=20
      .rw[aFz pS,aFz I]
      rw[aFA pS,aFA I,aFz y9,aFz E,aFz (by simp only[aFF,aFS];omega),aFz (by rw[aFD];simp only[aFF,aFS];unfold qM;omega),aFz (by rw[aFD];simp only[aFF,aFS];omega)]
    .rw[hf,aFA j,aFz (by
        cases D:a.1<;>cases z:b.1<;>cases h3:uU a.2.1<;>first|rfl|exact absurd ⟨⟨D,z⟩,h3⟩ j)]
  |a::b::d::t=>rfl
theorem a1T:F9 c pl id sc tg fg sv en r cm fl seen ids=some (match tP r with|none=>(3,sc,0,seen) |some t=>if sT .str .bool seen uK=true then(9,sc,0,t6 .str .bool uK true seen) else(0,t,1,t6 .str .bool uK true seen)):=by
  unfold F9 IL;rw[Hr,aFC];cases ho:tP r with
  |none=>rfl
  | some t=>
    have j:qR rK [(true,t,())] (0:Int)=(true,t,()):=rfl;rw[QI ho,aFA pR];dsimp only;show Option.bind (if sT .str .bool seen uK=true then _ else _) _=_;by_cases h:sT .str .bool seen uK=true
    .rw[aFz h,aFz h];rfl
    rw[aFA h,aFA h,aFz y9,j];rfl
theorem a1U:FA c pl id sc tg fg sv en r cm fl seen ids=some (match tP r with|none=>(3,tg,0,seen) |some t=>if sT .str .bool seen uL=true then(9,tg,0,t6 .str .bool uL true seen) else(0,t,2,t6 .str .bool uL true seen)):=by
  unfold FA IM;rw[Hr,aFC];cases ho:tP r with
  |none=>rfl
  | some t=>
    have j:qR rK [(true,t,())] (0:Int)=(true,t,()):=rfl;rw[QI ho,aFA pR];dsimp only;show Option.bind (if sT .str .bool seen uL=true then _ else _) _=_;by_cases h:sT .str .bool seen uL=true
    .rw[aFz h,aFz h];rfl
    rw[aFA h,aFA h,aFz y9,j];rfl
theorem a1V:GR c pl id sc tg fg sv en r cm fl seen ids=some (match FP r with|none=>(3,sv,seen) |some v=>if sT .str .bool seen xN=true then(9,sv,t6 .str .bool xN true seen) else(0,v,t6 .str .bool xN true seen)):=by
  unfold GR
  match r with
  |[]=>rw[ak];rfl
  | [a]=>
    have hst:zA [a] [112]=some (!a.1):=by rw[ak];cases h:a.1<;>simp [h]
    rw[hst,aFC];have D:qR rK [a] (0:Int)=a:=rfl;rw[D,show IN ([([110,101,119]:pL),([102,117,122,122,121]:pL),([116,114,97,110,115,108,97,116,101,100]:pL),([114,101,118,105,101,119,101,100]:pL),([111,98,115,111,108,101,116,101]:pL)]:pM) a.2.1=some (decide (0≤A5 a.2.1)) from aA8 a.2.1];rw[show F4 ([([110,101,119]:pL),([102,117,122,122,121]:pL),([116,114,97,110,115,108,97,116,101,100]:pL),([114,101,118,105,101,119,101,100]:pL),([111,98,115,111,108,101,116,101]:pL)]:pM) a.2.1=some (A5 a.2.1) from a1S a.2.1];have hf:FP [a]=if a.1=false∧0≤A5 a.2.1 then some (A5 a.2.1) else none:=rfl;rw[hf];cases E:a.1 with
    |true=>rfl
    | false=>
      rw[aFz (show ((!(!false))==false)=true from rfl),aFz (fun _=>y9),aFz (fun _=>Option.isSome_some)];by_cases j:0≤A5 a.2.1
      . rw[aFA (show¬((!(!false))||(!(val (some (decide (0≤A5 a.2.1))))))=true by rw[aGe j];decide),aFz (show false=false∧0≤A5 a.2.1 from⟨rfl,j⟩)]
        show (if sT .str .bool seen xN=true then _ else _)=_;dsimp only;by_cases z:sT .str .bool seen xN=true
        .rw[aFz z,aFz z];rfl
        rw[aFA z,aFA z,aFz y9];rfl
      .rw[aFz (show ((!(!false))||(!(val (some (decide (0≤A5 a.2.1))))))=true by rw[decide_eq_false j];decide),aFA (show¬(false=false∧0≤A5 a.2.1) from fun h=>j h.2)]
  |a::b::t=>rw[ak];rfl
theorem a1W {r:List Wd}(hl:r.length≤1100000000): ∀(n i:Nat),i+n=r.length→s8 (NB r) ((i:Int),tA (r.take i))=some (tA r)
  | 0,i,hi=>by
    have:i=r.length:=by omega
    subst this;rw[take_length,vF];unfold NB;dsimp only;rw[aFA (wM _)];rfl
  | n+1,i,hi=>by
    have h:i<r.length:=by omega
    have j:(tA (r.take i)).length=i:=by unfold tA;rw[aG0,aGh];omega
    have z:tA (r.take i)++[r[i].2.1]=tA (r.take (i+1)):=by
      unfold tA;rw[take_succ_eq_append_getElem h,map_append];rfl
    rw[vF];generalize D:s8 (NB r)=F;unfold NB;dsimp only;rw[aFz (uX h),aFz (tE h),U4 h,j,aFz (by simp only[aFF,aFS];omega),aFz (vK pP),aFC];dsimp only;rw[z,←D,show ((i:Int)+1)=((i+1:Nat):Int) by omega];exact a1W hl n (i+1) pP
theorem aBc {r:List Wd}(hl:r.length≤1100000000):KJ r=some (r.any FR):=by
  unfold KJ PV
  rw[J0 (l:=r) FR (fun k=>(k:Int)) (fun i h=>by
    unfold YX SS;rw[aFz (uX h),aFz (tE h),U4 h,ZQ,aFz (fun _=>Option.isSome_some),aFC,aFz (vK pP)];rfl) (by
    unfold YX;rw[aFA (wM _)]),TR,aFC,a1a]
theorem aBd (hl:r.length≤1100000000):GO c pl id sc tg fg sv en r cm fl seen ids=some (if r=[]∨(r.any FR)=true then(3,fg,seen) else if sT .str .bool seen wW=true∨DN (tA r)=true then(9,fg,t6 .str .bool wW true seen) else if 20<(tA r).length then(6,fg,t6 .str .bool wW true seen) else(0,tS (tA r),t6 .str .bool wW true seen)):=by
  have D:=a1W hl r.length 0 pP;have G:(tA r).length=r.length:=by unfold tA;rw[aG0]
  unfold GO;rw[aBc hl,aFz (fun _=>Option.isSome_some),aAP];show (if (decide (r=[])||r.any FR)=true then _ else _)=_
  by_cases h:r=[]∨(r.any FR)=true
  .rw[aFz h,aFz (by rcases h with h|h<;>simp [h])]
  rw[aFA h,aFA (by rw[not_or] at h;simpa using h)]
  have j:s8 (NB r) ((0:Int),([]:pM))=some (tA r):=D;rw[j];unfold uO;rw[aFC,aFz pP]
  have E:F6 (tS (tA r))=some (tS (tA r)):=by
    unfold F6;rw[aFz (by rw[U0];omega),nil_append]
  show (if ((sT .str .bool seen wW)==false)=true then _ else _)=_;cases hf:sT .str .bool seen wW with
  | true=>
    rw[aFA pR,aFz rfl,aFz (.inl rfl)];rfl
  | false=>
    rw[aFz qD,E,aFz (fun _=>Option.isSome_some)];rw[aFz (show (sT .str .bool seen ([102,108,97,103,115]:pL)==false)=true→List.length (val (some (tS (tA r))))≤9223372036854775807 from fun _=>by show (tS (tA r)).length≤_;rw[U0];omega)];show (if (sT .str .bool seen wW||(decide (((((compact (tS (tA r))).length):Nat):Int)<((tS (tA r)).length:Int))))=true then _ else _)=_
    have F:decide (((((compact (tS (tA r))).length):Nat):Int)<((tS (tA r)).length:Int))=DN (tA r):=by
      unfold DN;exact aG4.2 pP
    rw[F,hf,Bool.false_or];by_cases z:DN (tA r)=true
    .rw[aFz z,aFz (.inr z)];rfl
    rw[aFA z,aFA (show¬(false=true∨DN (tA r)=true) by simp [z])]
    by_cases h3:20<(tA r).length
    .rw[aFz h3,aFz (by rw[U0];simp only[aFI];omega)];rfl
    rw[aFA h3,aFA (by rw[U0];simp only[aFI];omega)];rfl
end
theorem aBe (k:pL):GN k=if k=wF then(some 117,true) else if k=xB then(some 118,true) else(if k=wW then some 122 else if k=xN then some 121 else if k=uL then some 120 else if k=uK then some 119 else none,false):=by
  unfold GN;by_cases j:k=wF
  .rw[aFz j,show decide (k=([99,111,109,109,101,110,116]:pL))=true from aGe j,aFz rfl]
  rw[aFA j,show decide (k=([99,111,109,109,101,110,116]:pL))=false from decide_eq_false j,aFA pR]
  by_cases h:k=xB
  .rw[aFz h,show decide (k=([102,105,101,108,100]:pL))=true from aGe h,aFz rfl]
  rw[aFA h,show decide (k=([102,105,101,108,100]:pL))=false from decide_eq_false h,aFA pR,xM,xM,xM,xM]
  rfl
end
noncomputable section
def OA (P:Pg) (l:List Wd) (nx:Int):Option L9:=
    if ((decide (P.pl=(0:Int)))||(decide (P.pl=(2:Int))))=true then
     (x9 P.c P.pl P.id P.sc P.tg P.fg P.sv (P.ends,()) l P.cm P.n1 P.fl P.n2 P.seen P.ids).bind fun v82=>
     some ((v82.1,v82.2.1,P.c.2.1,P.c.2.2.1,P.c.2.2.2.1,v82.2.2.1,v82.2.2.2.1,v82.2.2.2.2.1,v82.2.2.2.2.2.1,v82.2.2.2.2.2.2.1,v82.2.2.2.2.2.2.2.1,0,P.ends,v82.2.2.2.2.2.2.2.2.1,v82.2.2.2.2.2.2.2.2.2.1,v82.2.2.2.2.2.2.2.2.2.2.1,v82.2.2.2.2.2.2.2.2.2.2.2.1,v82.2.2.2.2.2.2.2.2.2.2.2.2.1,v82.2.2.2.2.2.2.2.2.2.2.2.2.2))
    else
     if 0≤(0:Int)∧(0:Int)<(l.length:Int) then
      if (decide ((qR rK l (0:Int)).2.1=([101,110,100]:pL)))=true then
       P.cm.bind fun O=>
       P.fl.bind fun Z=>
       if 0≤(1:Int)∧(1:Int)≤(l.length:Int)∧(l.length:Int)≤(l.length:Int) then
        (zL P.c P.pl P.id P.sc P.tg P.fg P.sv (P.ends,()) (sL l (1:Int) (l.length:Int)) nx O Z P.seen P.ids).bind fun v88=>
        some ((v88.1,P.c.1,v88.2.1,v88.2.2.1,v88.2.2.2.1,v88.2.2.2.2.1,P.id,P.sc,P.tg,P.fg,P.sv,0,v88.2.2.2.2.2.1,P.ids,v88.2.2.2.2.2.2.1,(O.length),v88.2.2.2.2.2.2.2.1,v88.2.2.2.2.2.2.2.2,P.seen))
       else none
      else
       if 0≤(0:Int)∧(0:Int)<(l.length:Int) then
        BF (GN ((qR rK l (0:Int)).2.1)) fun v89=>
        if ((zO v89.1)||((decide (P.pl=(1:Int)))&&(!v89.2)))=true then
         some (((3:Int),P.c.1,P.c.2.1,P.c.2.2.1,P.c.2.2.2.1,P.pl,P.id,P.sc,P.tg,P.fg,P.sv,0,P.ends,P.ids,P.cm,P.n1,P.fl,P.n2,P.seen))
        else
         BF v89.1 fun aA=>
         if aA=some 117 then
          P.cm.bind fun aB=>
          P.fl.bind fun aC=>
          if 0≤(1:Int)∧(1:Int)≤(l.length:Int)∧(l.length:Int)≤(l.length:Int) then
           (DB P.c P.pl P.id P.sc P.tg P.fg P.sv (P.ends,()) (sL l (1:Int) (l.length:Int)) aB aC P.seen P.ids).bind fun v93=>
           some ((v93.1,P.c.1,P.c.2.1,P.c.2.2.1,P.c.2.2.2.1,P.pl,P.id,P.sc,P.tg,P.fg,P.sv,v93.2.1,P.ends,P.ids,(some v93.2.2),(v93.2.2.length),(some aC),(aC.length),P.seen))
          else none
         else
         if aA=some 118 then
          P.cm.bind fun aD=>
          P.fl.bind fun aE=>
          if 0≤(1:Int)∧(1:Int)≤(l.length:Int)∧(l.length:Int)≤(l.length:Int) then
           (DG P.c P.pl P.id P.sc P.tg P.fg P.sv (P.ends,()) (sL l (1:Int) (l.length:Int)) aD aE P.seen P.ids).bind fun v96=>
           some ((v96.1,P.c.1,P.c.2.1,P.c.2.2.1,P.c.2.2.2.1,P.pl,P.id,P.sc,P.tg,P.fg,P.sv,v96.2.1,P.ends,P.ids,(some aD),(aD.length),(some v96.2.2),(v96.2.2.length),P.seen))
          else none
         else
         if aA=some 119 then
          P.cm.bind fun aF=>
          P.fl.bind fun aG=>
          if 0≤(1:Int)∧(1:Int)≤(l.length:Int)∧(l.length:Int)≤(l.length:Int) then
           (F9 P.c P.pl P.id P.sc P.tg P.fg P.sv (P.ends,()) (sL l (1:Int) (l.length:Int)) aF aG P.seen P.ids).bind fun v99=>
           some ((v99.1,P.c.1,P.c.2.1,P.c.2.2.1,P.c.2.2.2.1,P.pl,P.id,v99.2.1,P.tg,P.fg,P.sv,v99.2.2.1,P.ends,P.ids,(some aF),(aF.length),(some aG),(aG.length),v99.2.2.2))
          else none
         else
         if aA=some 120 then
          P.cm.bind fun aH=>
          P.fl.bind fun aI=>
          if 0≤(1:Int)∧(1:Int)≤(l.length:Int)∧(l.length:Int)≤(l.length:Int) then
           (FA P.c P.pl P.id P.sc P.tg P.fg P.sv (P.ends,()) (sL l (1:Int) (l.length:Int)) aH aI P.seen P.ids).bind fun v102=>
           some ((v102.1,P.c.1,P.c.2.1,P.c.2.2.1,P.c.2.2.2.1,P.pl,P.id,P.sc,v102.2.1,P.fg,P.sv,v102.2.2.1,P.ends,P.ids,(some aH),(aH.length),(some aI),(aI.length),v102.2.2.2))
          else none
         else
         if aA=some 121 then
          P.cm.bind fun aJ=>
          P.fl.bind fun aK=>
          if 0≤(1:Int)∧(1:Int)≤(l.length:Int)∧(l.length:Int)≤(l.length:Int) then
           (GR P.c P.pl P.id P.sc P.tg P.fg P.sv (P.ends,()) (sL l (1:Int) (l.length:Int)) aJ aK P.seen P.ids).bind fun v105=>
           some ((v105.1,P.c.1,P.c.2.1,P.c.2.2.1,P.c.2.2.2.1,P.pl,P.id,P.sc,P.tg,P.fg,v105.2.1,0,P.ends,P.ids,(some aJ),(aJ.length),(some aK),(aK.length),v105.2.2))
          else none
         else
         if aA=some 122 then
          P.cm.bind fun aL=>
          P.fl.bind fun aM=>
          if 0≤(1:Int)∧(1:Int)≤(l.length:Int)∧(l.length:Int)≤(l.length:Int) then
           (GO P.c P.pl P.id P.sc P.tg P.fg P.sv (P.ends,()) (sL l (1:Int) (l.length:Int)) aL aM P.seen P.ids).bind fun v108=>
           some ((v108.1,P.c.1,P.c.2.1,P.c.2.2.1,P.c.2.2.2.1,P.pl,P.id,P.sc,P.tg,v108.2.1,P.sv,0,P.ends,P.ids,(some aL),(aL.length),(some aM),(aM.length),v108.2.2))
          else none
         else
          none
       else none
     else none
theorem a1X {s:St}(ho:s.op=false) (h:s.ends≠[]) (n:Int) {c:wQ}(z: ∀t,c≠.beg false t):(sD s n c).1=3:=by
  cases c with
  |bad=>rfl
  |cont t=>rw[sD,aFz (.inl ho)]
  | beg j t=>
    cases j with
    |true=>rw[sD,aFz (.inr h)]
    |false=>exact absurd rfl (z t)
  |com t=>rw[sD,aFz ho]
  |src t=>rw[sD,aFz (.inl ho)]
  |tgt t=>rw[sD,aFz (.inl ho)]
  |sta v=>rw[sD,aFz (.inl ho)]
  |fld m v=>rw[sD,aFz ho]
  |flg l=>rw[sD,aFz (.inl ho)]
  |fin=>rw[sD,aFz ho]
theorem a1Y {k:pL}{r:List Wd}{t:pL}(h:vM k r= .beg false t):k=H3∧tP r=some t:=by
  unfold vM at h
  have one: ∀(f:pL→wQ),(∀x,f x≠.beg false t)→((tP r).map f).getD .bad≠.beg false t:=fun f hf=>by
    cases tP r with
    |none=>intro h;cases h
    |some x=>exact hf x
  split at h
  .exact absurd h (one _ fun x j=>by cases j)
  split at h
  . rename_i D
    refine⟨D,?_⟩;cases ho:tP r with
    |none=>rw[ho] at h;cases h
    |some x=>rw[ho] at h;cases h;rfl
  split at h
  .exact absurd h (one _ fun x j=>by cases j)
  split at h
  .exact absurd h (one _ fun x j=>by cases j)
  split at h
  .exact absurd h (one _ fun x j=>by cases j)
  split at h
  . cases z:FP r with
    |none=>rw[z] at h;cases h
    |some v=>rw[z] at h;cases h
  split at h
  . cases z:FQ r with
    |none=>rw[z] at h;cases h
    |some v=>rw[z] at h;cases h
  split at h
  .split at h<;>cases h
  split at h
  .split at h<;>cases h
  cases h
theorem a1Z (w:Wd) (r:List Wd) (hw:w.1=false):(((!decide (((w::r).length:Int)=(2:Int)))||(qR rK (w::r) (0:Int)).1)||(!((qR rK (w::r) (1:Int)).1)))= !(tP r).isSome:=by
  have h:=aAG w r;have h0:(qR rK (w::r) (0:Int)).1=false:=hw;rw[h0,←h];cases decide (((w::r).length:Int)=(2:Int))<;>cases(qR tW (w::r) (1:Int)).1<;>rfl
theorem aBf {s:St}(h:yT s) {P:Pg}(hr:EG s P) (ho:s.op=false) {w:Wd}{r:List Wd}(hw:w.1=false) {N:Nat}(U: ∀x∈r,B5 N x) (nx:Int):CK (OA P (w::r) nx) (sD s nx (vM w.2.1 r)):=by
  have D:s.ends≠[]:=by
    rcases hr.live with M|M
    .rw[ho] at M;cases M
    exact M
  have E:P.pl=2:=by rw[hr.pl,ho,aFA pR,aFA D]
  have hj:=h.es.len;unfold OA;rw[aFz (by rw[E];rfl)];unfold x9;rw[a1Z w r hw,E];have ha: ¬((2:Int)=0):=by decide
  have Z:(((!decide (((w::r).length:Int)=(2:Int)))==false)=true→0≤(0:Int)∧(0:Int)<((w::r).length:Int)):=fun _=>y9
  have Y:((((!decide (((w::r).length:Int)=(2:Int)))||(qR rK (w::r) (0:Int)).1)==false)=true→0≤(1:Int)∧(1:Int)<((w::r).length:Int)):=fun K=>by
    cases hd:decide (((w::r).length:Int)=(2:Int)) with
    |false=>rw[hd] at K;cases K
    |true=>have:=aGc hd;omega
  rw[aFz Z,aFz Y];cases j:tP r with
  | none=>
    rw[aFz qD,aFC]
    have h3:(sD s nx (vM w.2.1 r)).1=3:=a1X ho D nx fun t Q=>by
      have:=(a1Y Q).2;rw[j] at this;cases this
    refine⟨_,rfl,h3.symm,fun h0=>?_⟩;rw[h3] at h0;cases h0
  | some t=>
    have hg:=a1G U j;have R:=QI j;subst R;have X:qR rK [w,(true,t,())] (0:Int)=w:=rfl;have V:qR rK [w,(true,t,())] (1:Int)=(true,t,()):=rfl;rw[aFA pR,aFz pR,X,V];rw[aFz (fun _=>y9),aFz (fun K=>by simp at K),aFA pR,aFz (fun _=>y9)];dsimp only;by_cases I:w.2.1=H3
    . have G:vM w.2.1 [(true,t,())]= .beg false t:=by rw[I];exact(a1L (k:=[]) j).2.1
      rw[G,sD,aFA (show¬(s.op=true∨s.ends=[]) by simp [ho,D])];by_cases z:t=[]∨200<t.length
      . rw[aFz z,aFA (by
          rcases z with z|z
          .subst z;simp
          rw[decide_eq_false (show¬(t.length:Int)≤200 by omega)];simp),aFC]
        exact vS rfl rfl pQ
      rw[aFA z]
      have F:sT .str .bool P.ids t=(s.c.2.2.2.1.any fun y=>decide (y.1=t)):=by rw[hr.ids t,ho];simp
      rw[not_or] at z;rw[aFz (by rw[show decide (w.2.1=([101,110,116,114,121]:pL))=true from aGe I,decide_eq_false z.1,aGe (show (t.length:Int)≤200 by omega)];rfl),F];by_cases h3:(s.c.2.2.2.1.any fun y=>decide (y.1=t))=true
      . rw[aFz h3,aFz h3,aFC]
        exact vS rfl rfl pQ
      rw[aFA h3,aFA h3,hr.c]
      by_cases h4:1000≤s.c.2.2.2.1.length
      . rw[aFz h4,aFz pS,aFC]
        exact vS rfl rfl pQ
      rw[aFA h4,aFA pS,aFC]
      refine H4 rfl rfl {c:=rfl,ends:=hr.ends,pl:= ?_,x:=fun _=>⟨rfl,rfl,rfl,rfl,rfl⟩,id:=fun _ _=>rfl,fl:=fun _=>⟨[],rfl,rfl,nodup_nil,fun h0=>absurd h0.symm vR.2.2.2.1⟩,ap:=O9.symm,seen:=fun _=>⟨rfl,rfl,rfl,rfl⟩,ids:=fun x=>?_,live:= .inl rfl}
      . show (3:Int)=if true=true then(if s.ends=[] then 1 else 3) else _
        rw[aFz rfl,aFA D]
      show sT .str .bool (t6 .str .bool t true P.ids) x=((s.c.2.2.2.1.any fun y=>decide (y.1=x))||((true&&decide (s.ends≠[]))&&decide (t=x)))
      rw[xM,hr.ids x,ho,aGe D];by_cases O:x=t
      .subst O;simp
      rw[aFA O,show decide (t=x)=false from decide_eq_false (fun e=>O e.symm)];simp
    rw[aFA (by rw[show decide (w.2.1=([101,110,116,114,121]:pL))=false from decide_eq_false I];simp),aFC]
    have h3:(sD s nx (vM w.2.1 [(true,t,())])).1=3:=a1X ho D nx fun t Q=>I (a1Y Q).1;refine⟨_,rfl,h3.symm,fun h0=>?_⟩;rw[h3] at h0;cases h0
theorem aBg {s:St}(ho:s.op=true) (n:Int) {k:pL}{r:List Wd}(E:k≠wF) (D:k≠uK) (h3:k≠uL) (h4:k≠xN) (z:k≠xB) (j:k≠O8) (h:k≠wW):(sD s n (vM k r)).1=3:=by
  unfold vM;split
  . cases tP r with
    |none=>rfl
    |some t=>show (sD s n (.beg true t)).1=3;rw[sD,aFz (.inl ho)]
  split
  . cases tP r with
    |none=>rfl
    |some t=>show (sD s n (.beg false t)).1=3;rw[sD,aFz (.inl ho)]
  first|rfl|(rw[aFA E,aFA D,aFA h3,aFA h4,aFA z,aFA j,aFA h];rfl)
theorem a2a (r:List Wd):vM wF r=((tP r).map wQ.com).getD .bad∧vM uK r=((tP r).map wQ.src).getD .bad∧vM uL r=((tP r).map wQ.tgt).getD .bad∧vM xN r=((FP r).map wQ.sta).getD .bad∧
    vM xB r=((FQ r).map fun q=>wQ.fld q.1 q.2).getD .bad∧vM O8 r=(if r=[] then .fin else .bad)∧vM wW r=(if r=[]∨(r.any FR)=true then .bad else .flg (tA r)):=by
  refine⟨?_,?_,?_,?_,?_,?_,?_⟩<;>unfold vM
  .rw[aFA pQ,aFA pQ,aFz rfl]
  .rw[aFA pQ,aFA pQ,aFA pQ,aFz rfl]
  .rw[aFA pQ,aFA pQ,aFA pQ,aFA pQ,aFz rfl]
  .rw[aFA pQ,aFA pQ,aFA pQ,aFA pQ,aFA pQ,aFz rfl]
  .rw[aFA pQ,aFA pQ,aFA pQ,aFA pQ,aFA pQ,aFA pQ,aFz rfl]
  .rw[aFA pQ,aFA pQ,aFA pQ,aFA pQ,aFA pQ,aFA pQ,aFA pQ,aFz rfl]
  rw[aFA pQ,aFA pQ,aFA pQ,aFA pQ,aFA pQ,aFA pQ,aFA pQ,aFA pQ,aFz rfl]
theorem H5 (w:Wd) (r:List Wd):sL (w::r) (1:Int) ((w::r).length:Int)=r:=(O3 (k:=1)).trans rfl
theorem H6 {w:Wd}{r:List Wd}:0≤(1:Int)∧(1:Int)≤((w::r).length:Int)∧((w::r).length:Int)≤((w::r).length:Int):=⟨pQ,by simp only[aFF];omega,aGI _⟩
section
variable {s:St}(h:yT s) {P:Pg}(hr:EG s P) (ho:s.op=true) {w:Wd}{r:List Wd}(hw:w.1=false) (hl:r.length≤1100000000) (nx:Int)
include h hr ho
theorem Hu:P.pl=if s.ends=[] then 1 else 3:=by rw[hr.pl,aFz ho]
theorem a2b:decide (P.pl=(1:Int))=decide (s.ends=[]):=by
  rw[Hu h hr ho];by_cases j:s.ends=[]<;>simp [j]
theorem aBh (z:w.2.1=O8):CK (OA P (w::r) nx) (sD s nx (vM w.2.1 r)):=by
  obtain⟨x1,x2,x3,x4,x5⟩:=hr.x ho;obtain⟨fl,f1,f2,f3,f4⟩:=hr.fl ho;have F:=h.es.len;have G:=aAQ h
  have E:fl.length≤20:=by
    have:=(QL fl f3).length_eq;rw[f2] at this;have:=a1H h.fd;omega
  unfold OA;rw[aFA (by rw[Hu h hr ho];split<;>decide),aFz y9,show qR rK (w::r) (0:Int)=w from rfl,aFz (by rw[z];rfl),x5,f1,aFC,aFC,aFz H6,H5,z,(a2a r).2.2.2.2.2.1]
  unfold zL;cases D:r with
  | cons a t=>
    rw[aFz (by simp only[aFI,aFF];omega),aFA pR];exact vS rfl rfl pQ
  | nil=>
    rw[aFA pR,aFz rfl,aA4 f3 pP,aFC,a2b h hr ho,f2,sD,aFA (show¬s.op=false by rw[ho];simp)];rw[hr.ends,hr.c,x1,x2,x3,x4];by_cases j:s.ends=[]
    . rw[aFz (aGe j),aFz j]
      unfold uO;rw[aFC];dsimp only;rw[aFz (by simp only[aFF,aFS];omega),aFC];refine H4 rfl rfl {c:=rfl,ends:=rfl,pl:= ?_,x:=fun h0=>(by cases h0),id:=fun h0=>(by cases h0),fl:=fun h0=>(by cases h0),ap:=O9.symm,seen:=fun h0=>(by cases h0),ids:=fun x=>?_,live:= .inr (by simp [uP])}
      . show (2:Int)=if false=true then _ else(if s.ends++[nx]=[] then 0 else 2)
        rw[aFA pR,aFA pR]
      show sT .str .bool P.ids x=((s.c.2.2.2.1.any fun y=>decide (y.1=x))||((false&&decide (s.ends++[nx]≠[]))&&decide (([]:pL)=x)))
      rw[hr.ids x,decide_eq_false (show¬s.ends≠[] by simpa using j)];simp
    rw[aFA (by simpa using j),aFA j,hr.id ho j,aFz (by simp only[aFF,aFS];omega)]
    unfold uO;rw[aFC];dsimp only;rw[aFz (by simp only[aFF,aFS];omega),aFC];refine H4 rfl rfl {c:=rfl,ends:=rfl,pl:= ?_,x:=fun h0=>(by cases h0),id:=fun h0=>(by cases h0),fl:=fun h0=>(by cases h0),ap:=O9.symm,seen:=fun h0=>(by cases h0),ids:=fun x=>?_,live:= .inr (by simp [uP])}
    . show (2:Int)=if false=true then _ else(if s.ends++[nx]=[] then 0 else 2)
      rw[aFA pR,aFA pR]
    show sT .str .bool P.ids x=(((s.c.2.2.2.1++[s.x]).any fun y=>decide (y.1=x))||((false&&decide (s.ends++[nx]≠[]))&&decide (([]:pL)=x)))
    rw[hr.ids x,any_append,ho,aGe j];simp
end
end
noncomputable section
section
variable {s:St}(h:yT s) {P:Pg}(hr:EG s P) (ho:s.op=true) {w:Wd}{r:List Wd}(hw:w.1=false) (hl:r.length≤1100000000) (nx:Int)
include h hr ho
theorem QM {s':St}{P':Pg}(k1:s'.c=s.c) (k2:s'.ends=s.ends) (k3:s'.id=s.id) (k4:s'.op=s.op) (p1:P'.c=P.c) (p2:P'.ends=P.ends) (p3:P'.id=P.id) (p4:P'.pl=P.pl) (p5:P'.ids=P.ids)
    (h:P'.sc=s'.sc∧P'.tg=s'.tg∧P'.fg=s'.fg∧P'.sv=s'.sv∧P'.cm=some s'.cm) (hf: ∃l,P'.fl=some l∧FT l=s'.fd∧(l.map (·.1)).Nodup∧(s'.last=xB→∃l' v,l=l'++[(s'.name,v,())]))
    (D:P'.ap=L8 s'.last) (j:sT .str .bool P'.seen uK=s'.bs∧sT .str .bool P'.seen uL=s'.bt∧sT .str .bool P'.seen xN=s'.bh∧sT .str .bool P'.seen wW=s'.bf):EG s' P':=
  {c:=by rw[p1,k1];exact hr.c,ends:=by rw[p2,k2];exact hr.ends,pl:=by rw[p4,k4,k2];exact hr.pl,x:=fun _=>h,id:=fun _ z=>by rw[p3,k3];exact hr.id ho (by rw[←k2];exact z),fl:=fun _=>hf,ap:=D,seen:=fun _=>j,ids:=fun t=>by rw[p5,k1,k2,k3,k4];exact hr.ids t,live:= .inl (k4.trans ho)}
include hl in
theorem aBi:CK (OA P (w::r) nx) (sD s nx (vM w.2.1 r)):=by
  by_cases K:w.2.1=O8
  .exact aBh h hr ho nx K
  obtain⟨x1,x2,x3,x4,x5⟩:=hr.x ho;obtain⟨fl,f1,f2,f3,f4⟩:=hr.fl ho;obtain⟨s1,s2,s3,s4⟩:=hr.seen ho;have hcm:=aAM h.cm;have D:=QL fl f3;rw[f2] at D
  have R:fl.length≤20:=by
    have:=D.length_eq;have:=a1H h.fd;omega
  obtain⟨c1,c2,c3,c4,c5,c6,c7⟩:=a2a r;unfold OA;rw[aFA (by rw[Hu h hr ho];split<;>decide),aFz y9,show qR rK (w::r) (0:Int)=w from rfl,show decide (w.2.1=([101,110,100]:pL))=false from decide_eq_false K,aFA pR,aFz y9,aBe]
  unfold BF;by_cases Q:w.2.1=wF
  . rw[aFz Q]
    dsimp only;rw[aFA (by simp [zO]),aFz rfl,x5,f1,aFC,aFC,aFz H6,H5,aA9 _ _ _ _ _ _ _ _ _ _ _ _ _ hcm,aFC,Q,c1];cases U:tP r with
    |none=>exact vS rfl rfl pQ
    | some t=>
      show CK _ (sD s nx (.com t));rw[sD,aFA (show¬s.op=false by rw[ho];simp)];dsimp only;by_cases F:s.cm.length=20
      . rw[aFz F,aFz (show 20≤s.cm.length by omega)]
        exact vS rfl rfl pQ
      rw[aFA F,aFA (show¬20≤s.cm.length by omega)]
      exact H4 rfl rfl (QM h hr ho rfl rfl rfl rfl rfl rfl rfl rfl rfl ⟨x1,x2,x3,x4,rfl⟩ ⟨fl,rfl,f2,f3,fun h0=>absurd h0 vR.2.2.2.2.2.2.2.1⟩ U9.symm ⟨s1,s2,s3,s4⟩)
  rw[aFA Q];by_cases O:w.2.1=xB
  . rw[aFz O]
    dsimp only;rw[aFA (by simp [zO]),aFA pR,aFz rfl,x5,f1,aFC,aFC,aFz H6,H5,aBb _ _ _ _ _ _ _ _ _ _ _ _ _ R,aFC,O,c5];cases hq:FQ r with
    |none=>exact vS rfl rfl pQ
    | some q=>
      show CK _ (sD s nx (.fld q.1 q.2));rw[sD,aFA (show¬s.op=false by rw[ho];simp),←U8 D.symm q.1];dsimp only;by_cases h3:(fl.any fun y=>decide (y.1=q.1))=true
      . rw[aFz h3,aFz h3]
        exact vS rfl rfl pQ
      rw[aFA h3,aFA h3]
      have V:=D.length_eq;by_cases F:fl.length=20
      . rw[aFz F,aFz (show 20≤s.fd.length by omega)]
        exact vS rfl rfl pQ
      rw[aFA F,aFA (show¬20≤s.fd.length by omega)]
      refine H4 rfl rfl (QM h hr ho rfl rfl rfl rfl rfl rfl rfl rfl rfl ⟨x1,x2,x3,x4,rfl⟩ ⟨fl++[(q.1,q.2,())],rfl,?_,QK.2 ⟨f3,by cases hb:(fl.any fun y=>decide (y.1=q.1)) with|false=>rfl|true=>exact absurd hb h3⟩,fun _=>⟨fl,q.2,rfl⟩⟩ UC.symm ⟨s1,s2,s3,s4⟩)
      rw[QJ,f2]
  rw[aFA O];have E: ∀(o:pY),((zO o)||((decide (P.pl=(1:Int)))&&(!false)))=((zO o)||decide (s.ends=[])):=fun o=>by rw[a2b h hr ho];simp
  by_cases h3:w.2.1=wW
  . rw[aFz h3]
    dsimp only;rw[E,h3,c7];by_cases j:s.ends=[]
    . rw[aFz (by simp [j])]
      split
      .exact vS rfl rfl pQ
      rw[sD,aFz (.inr j)]
      exact vS rfl rfl pQ
    rw[aFA (by simp [zO,j]),aFA pR,aFA pR,aFA pR,aFA pR,aFA pR,aFz rfl,x5,f1,aFC,aFC,aFz H6,H5,aBd _ _ _ _ _ _ _ _ _ _ _ _ _ hl,aFC]
    by_cases G:r=[]∨(r.any FR)=true
    . rw[aFz G,aFz G]
      exact vS rfl rfl pQ
    rw[aFA G,aFA G,sD,aFA (show¬(s.op=false∨s.ends=[]) by simp [ho,j]),s4]
    by_cases z:s.bf=true∨DN (tA r)=true
    . rw[aFz z,aFz z]
      exact vS rfl rfl pQ
    rw[aFA z,aFA z]
    by_cases M:20<(tA r).length
    . rw[aFz M,aFz M]
      exact vS rfl rfl pQ
    rw[aFA M,aFA M]
    refine H4 rfl rfl (QM h hr ho rfl rfl rfl rfl rfl rfl rfl rfl rfl ⟨x1,x2,rfl,x4,rfl⟩ ⟨fl,rfl,f2,f3,fun h0=>absurd h0.symm vR.2.2.2.1⟩ O9.symm ⟨?_,?_,?_,?_⟩)
    . show sT .str .bool (t6 .str .bool wW true P.seen) uK=s.bs
      rw[xM,aFA pQ];exact s1
    . show sT .str .bool (t6 .str .bool wW true P.seen) uL=s.bt
      rw[xM,aFA pQ];exact s2
    . show sT .str .bool (t6 .str .bool wW true P.seen) xN=s.bh
      rw[xM,aFA pQ];exact s3
    show sT .str .bool (t6 .str .bool wW true P.seen) wW=true
    rw[xM,aFz rfl]
  rw[aFA h3];by_cases h4:w.2.1=xN
  . rw[aFz h4]
    dsimp only;rw[E,h4,c4];cases I:FP r with
    | none=>
      by_cases j:s.ends=[]
      . rw[aFz (by simp [j])]
        exact vS rfl rfl pQ
      . rw[aFA (by simp [zO,j]),aFA pR,aFA pR,aFA pR,aFA pR,aFz rfl,x5,f1,aFC,aFC,aFz H6,H5,a1V,aFC,I]
        exact vS rfl rfl pQ
    | some v=>
      show CK _ (sD s nx (.sta v));by_cases j:s.ends=[]
      . rw[aFz (by simp [j]),sD,aFz (.inr j)]
        exact vS rfl rfl pQ
      rw[aFA (by simp [zO,j]),aFA pR,aFA pR,aFA pR,aFA pR,aFz rfl,x5,f1,aFC,aFC,aFz H6,H5,a1V,aFC,I,sD,aFA (show¬(s.op=false∨s.ends=[]) by simp [ho,j])]
      dsimp only;rw[s3];by_cases z:s.bh=true
      . rw[aFz z,aFz z]
        exact vS rfl rfl pQ
      rw[aFA z,aFA z]
      refine H4 rfl rfl (QM h hr ho rfl rfl rfl rfl rfl rfl rfl rfl rfl ⟨x1,x2,x3,rfl,rfl⟩ ⟨fl,rfl,f2,f3,fun h0=>absurd h0.symm vR.2.2.2.1⟩ O9.symm ⟨?_,?_,?_,?_⟩)
      . show sT .str .bool (t6 .str .bool xN true P.seen) uK=s.bs
        rw[xM,aFA pQ];exact s1
      . show sT .str .bool (t6 .str .bool xN true P.seen) uL=s.bt
        rw[xM,aFA pQ];exact s2
      . show sT .str .bool (t6 .str .bool xN true P.seen) xN=true
        rw[xM,aFz rfl]
      show sT .str .bool (t6 .str .bool xN true P.seen) wW=s.bf
      rw[xM,aFA pQ];exact s4
  rw[aFA h4];by_cases G:w.2.1=uL
  . rw[aFz G]
    dsimp only;rw[E,G,c3];cases I:tP r with
    | none=>
      by_cases j:s.ends=[]
      . rw[aFz (by simp [j])]
        exact vS rfl rfl pQ
      . rw[aFA (by simp [zO,j]),aFA pR,aFA pR,aFA pR,aFz rfl,x5,f1,aFC,aFC,aFz H6,H5,a1U,aFC,I]
        exact vS rfl rfl pQ
    | some t=>
      show CK _ (sD s nx (.tgt t));by_cases j:s.ends=[]
      . rw[aFz (by simp [j]),sD,aFz (.inr j)]
        exact vS rfl rfl pQ
      rw[aFA (by simp [zO,j]),aFA pR,aFA pR,aFA pR,aFz rfl,x5,f1,aFC,aFC,aFz H6,H5,a1U,aFC,I,sD,aFA (show¬(s.op=false∨s.ends=[]) by simp [ho,j])]
      dsimp only;rw[s2];by_cases z:s.bt=true
      . rw[aFz z,aFz z]
        exact vS rfl rfl pQ
      rw[aFA z,aFA z]
      refine H4 rfl rfl (QM h hr ho rfl rfl rfl rfl rfl rfl rfl rfl rfl ⟨x1,rfl,x3,x4,rfl⟩ ⟨fl,rfl,f2,f3,fun h0=>absurd h0 vR.2.2.2.2.2.2.2.2.2⟩ UB.symm ⟨?_,?_,?_,?_⟩)
      . show sT .str .bool (t6 .str .bool uL true P.seen) uK=s.bs
        rw[xM,aFA pQ];exact s1
      . show sT .str .bool (t6 .str .bool uL true P.seen) uL=true
        rw[xM,aFz rfl]
      . show sT .str .bool (t6 .str .bool uL true P.seen) xN=s.bh
        rw[xM,aFA pQ];exact s3
      show sT .str .bool (t6 .str .bool uL true P.seen) wW=s.bf
      rw[xM,aFA pQ];exact s4
  rw[aFA G];by_cases z:w.2.1=uK
  . rw[aFz z]
    dsimp only;rw[E,z,c2];cases I:tP r with
    | none=>
      by_cases j:s.ends=[]
      . rw[aFz (by simp [j])]
        exact vS rfl rfl pQ
      . rw[aFA (by simp [zO,j]),aFA pR,aFA pR,aFz rfl,x5,f1,aFC,aFC,aFz H6,H5,a1T,aFC,I]
        exact vS rfl rfl pQ
    | some t=>
      show CK _ (sD s nx (.src t));by_cases j:s.ends=[]
      . rw[aFz (by simp [j]),sD,aFz (.inr j)]
        exact vS rfl rfl pQ
      rw[aFA (by simp [zO,j]),aFA pR,aFA pR,aFz rfl,x5,f1,aFC,aFC,aFz H6,H5,a1T,aFC,I,sD,aFA (show¬(s.op=false∨s.ends=[]) by simp [ho,j])]
      dsimp only;rw[s1];by_cases z:s.bs=true
      . rw[aFz z,aFz z]
        exact vS rfl rfl pQ
      rw[aFA z,aFA z]
      refine H4 rfl rfl (QM h hr ho rfl rfl rfl rfl rfl rfl rfl rfl rfl ⟨rfl,x2,x3,x4,rfl⟩ ⟨fl,rfl,f2,f3,fun h0=>absurd h0 vR.2.2.2.2.2.2.2.2.1⟩ UA.symm ⟨?_,?_,?_,?_⟩)
      . show sT .str .bool (t6 .str .bool uK true P.seen) uK=true
        rw[xM,aFz rfl]
      . show sT .str .bool (t6 .str .bool uK true P.seen) uL=s.bt
        rw[xM,aFA pQ];exact s2
      . show sT .str .bool (t6 .str .bool uK true P.seen) xN=s.bh
        rw[xM,aFA pQ];exact s3
      show sT .str .bool (t6 .str .bool uK true P.seen) wW=s.bf
      rw[xM,aFA pQ];exact s4
  rw[aFA z];have h3:(sD s nx (vM w.2.1 r)).1=3:=aBg ho nx Q z G h4 O K h3;dsimp only;rw[aFz (by simp [zO])];refine⟨_,rfl,h3.symm,fun h0=>?_⟩;rw[h3] at h0;cases h0
end
theorem aBj {s:St}(h:yT s) {P:Pg}(hr:EG s P) {line:pL}(hl:line.length≤1100000000) (hf:DP line=false) (nx:Int):
    CK (uZ P.c P.pl P.id P.sc P.tg P.fg P.sv P.ap (P.ends,()) line nx P.cm P.n1 P.fl P.n2 P.seen P.ids) (tU s line nx):=by
  obtain⟨v,O,hm⟩:=a1C hl;unfold tU;rw[hf,aFA pR];unfold uZ;rw[O,aFC];cases hw:L7 line with
  | none=>
    rw[hw] at hm;have hm:v.2=false:=hm;rw[aFz (by rw[hm];rfl)];exact vS rfl rfl pQ
  | some l=>
    rw[hw] at hm;have hm:v=(l,true):=hm;subst hm
    have j:line.dropWhile tO≠[]:=fun e=>by
      unfold DP at hf;rw[e] at hf;cases hf
    have I:=a1D _ _ _ hw j;have G:=ai _ _ _ hw;obtain⟨Q,E⟩:=U5 _ _ _ hw;cases l with
    |nil=>exact absurd rfl I
    | cons w r=>
      have F: ∀x∈r,B5 line.length x:=fun x M=>G x (aFK _ M);rw[aFA pR,aFz y9];dsimp only;rw[show qR rK (w::r) (0:Int)=w from rfl];by_cases hq:w.1=true
      . rw[aFz hq]
        have D:((w::r).any fun x=> !x.1)=r.any fun x=> !x.1:=by rw[any_cons,hq];rfl
        have:=aA7 h hr (l:=w::r) pP pP nx;rw[D] at this;show CK (Ht P (w::r)) (sD s nx (AN (w::r)));unfold AN;dsimp only;rw[aFz hq];by_cases K:(r.any fun x=> !x.1)=true
        .rw[aFz K] at this|-;exact this
        rw[aFA K] at this|-;exact this
      rw[aFA hq]
      have hq:w.1=false:=by simpa using hq
      show CK (OA P (w::r) nx) (sD s nx (AN (w::r)));have z:AN (w::r)=vM w.2.1 r:=by unfold AN;dsimp only;rw[aFA (by rw[hq];simp)]
      rw[z];cases ho:s.op with
      |false=>exact aBf h hr ho hq F nx
      |true=>exact aBi h hr ho (r:=r) (w:=w) (by simp only[aFF] at E;omega) nx
end
noncomputable section
theorem aBk {α β:Type}(o:Option α):(o.bind fun _=>(none:Option β))=none:=by cases o<;>rfl
theorem a2c (s:pL):GE s [10]=indexByte s 10:=index_one s 10
theorem a2d: ∀(l:pL),indexByte l 10<0→∀b∈l,b≠10
  |[],_,b,hb=>by cases hb
  | c::l,h,b,hb=>by
    rw[indexByte] at h;split at h
    .omega
    rename_i j
    have j:c≠10:=by simpa using j
    rcases aFN.1 hb with rfl|hb
    .exact j
    refine a2d l ?_ b hb
    have:=PD l 10;split at h
    . rename_i z
      simp only[aHc] at z;omega
    omega
theorem a2e: ∀(l:pL),0≤indexByte l 10→(l.take ((indexByte l 10).toNat+1)).getLast? =some 10∧(l.take ((indexByte l 10).toNat+1)).dropLast=l.take (indexByte l 10).toNat
  |[],h=>by simp [indexByte] at h
  | c::l,h=>by
    by_cases D:c=10
    . subst D
      have e:indexByte ((10:UInt8)::l) 10=0:=by rw[indexByte];rfl
      rw[e];exact⟨rfl,rfl⟩
    have F:=PD l 10
    have e:indexByte (c::l) 10=indexByte l 10+1∧0≤indexByte l 10:=by
      rw[indexByte,aFA (by simpa using D)] at h|-;split at h
      .omega
      rename_i j
      simp only[aHc] at j;rw[aFA (by simpa using j)];exact⟨rfl,pP⟩
    obtain⟨j,E⟩:=a2e l e.2;have e2:(indexByte (c::l) 10).toNat=(indexByte l 10).toNat+1:=by rw[e.1];omega
    rw[e2,take_succ_cons,take_succ_cons];have z:l.take ((indexByte l 10).toNat+1)≠[]:=fun h0=>by rw[h0] at j;cases j
    refine⟨?_,?_⟩
    .rw[List.getLast?_cons,j];rfl
    rw[dropLast_cons_of_ne_nil z,E]
theorem aBl {s:pL}(j:s.length≤1100000000): ∃t,D9 s [10]=some t∧t.1=if 0≤indexByte s 10 then s.take (indexByte s 10).toNat else s:=by
  have hi:=a2c s;have hr:=PD s 10;unfold D9 KG;rw[hi,aFz pP];by_cases h:0≤indexByte s 10
  . rw[aFz (aGe h),aFz ⟨pP,h,pP⟩,aFz (by simp;unfold qM;omega),aFz ⟨by simp;omega,by simp;omega,aGI _⟩,aFz h]
    refine⟨_,rfl,?_⟩;show sL s 0 (indexByte s 10)=_;unfold sL;simp
  rw[aFA (by simpa using h),aFA h];exact⟨_,rfl,rfl⟩
theorem a2f {s:pL}(M:s.length≤1100000000) {a:Nat}(G:a<s.length): ∃t,D9 (sL s (a:Int) (s.length:Int)) [10]=some t∧t.1=uB (FS s a)∧min (s.length:Int) (((a:Int)+(t.1.length:Int))+1)=(tI s a:Nat)∧t.1.length≤s.length-a:=by
  rw[O3];obtain⟨t,I,E⟩:=aBl (s:=s.drop a) (by rw[aGa];omega);refine⟨t,I,?_⟩;have hr:=PD (s.drop a) 10;rw[aGa] at hr;have K:=U7 G;by_cases h:0≤indexByte (s.drop a) 10
  . rw[aFz h] at E
    have j:tI s a=a+(indexByte (s.drop a) 10).toNat+1:=aFz h;have D:FS s a=(s.drop a).take ((indexByte (s.drop a) 10).toNat+1):=by unfold FS;rw[j];congr 1;omega
    obtain⟨g1,g2⟩:=a2e _ h;have z:t.1.length=(indexByte (s.drop a) 10).toNat:=by rw[E,aGh,aGa];omega
    refine⟨?_,?_,?_⟩
    . unfold uB
      rw[D,aFz g1,g2,E]
    .rw[z,j,Int.min_eq_right pP];omega
    omega
  rw[aFA h] at E
  have j:tI s a=s.length:=aFA h;have D:FS s a=s.drop a:=by unfold FS;rw[j];exact take_of_length_le (by rw[aGa];omega)
  have z:t.1.length=s.length-a:=by rw[E,aGa]
  refine⟨?_,?_,pP⟩
  . unfold uB
    rw[D,aFA (fun F=>a2d (s.drop a) pP 10 (mem_of_getLast? F) rfl),E]
  rw[z,j,Int.min_eq_left pP]
theorem a2g (s:pL):IC s=some ()∧(!((decide ((trimLeftS s ([32,9]:pL))=([]:pL)))||(decide ((sE (trimLeftS s ([32,9]:pL)) (0:Int))=(35:Int)))))= !DP s:=by
  unfold IC DP;rw[aAy];cases h:s.dropWhile tO with
  |nil=>exact⟨aFz (fun j=>by simp at j),rfl⟩
  | cons b t=>
    refine⟨aFz (fun _=>y9),?_⟩;rw[show sE (b::t) 0=(b.toNat:Int) from rfl,DL (n:=35) 35 rfl];simp
theorem a2h (w:Wd) (r:List Wd) (hw:w.1=false):(((!decide (((w::r).length:Int)=(2:Int)))||(qR rK (w::r) (0:Int)).1)||(!((qR rK (w::r) (1:Int)).1)))= !(tP r).isSome:=a1Z w r hw
theorem a2i (w:Wd) (r:List Wd):((((!decide (((w::r).length:Int)=(2:Int)))||(qR rK (w::r) (0:Int)).1)==false)=true→0≤(1:Int)∧(1:Int)<((w::r).length:Int)):=fun h=>by
  cases j:decide (((w::r).length:Int)=(2:Int)) with
  |false=>rw[j] at h;cases h
  |true=>have:=aGc j;omega
abbrev c0:sB:=(([]:pL),(([]:pM),(([]:List r6),(([]:List sN),()))))
abbrev UD (line:pL) (nx:Int):=A2 c0 (0:Int) ([]:pL) ([]:pL) ([]:pL) ([]:pM) (0:Int) (([]:pV),()) line nx (some ([]:pM)) 0 (some ([]:List r6)) 0 ([]:pT)
abbrev Hv (line:pL) (nx:Int):=GX c0 (0:Int) ([]:pL) ([]:pL) ([]:pL) ([]:pM) (0:Int) (([]:pV),()) line nx (some ([]:pM)) 0 (some ([]:List r6)) 0 ([]:pT)
theorem Hw (nx:Int) {c:wQ}(j: ∀t,c≠.beg true t):(sD tQ nx c).1=3:=by
  cases c with
  |bad=>rfl
  | beg h t=>
    cases h with
    |true=>exact absurd rfl (j t)
    |false=>rfl
  |cont t=>rfl
  |com t=>rfl
  |src t=>rfl
  |tgt t=>rfl
  |sta v=>rfl
  |fld m v=>rfl
  |flg l=>rfl
  |fin=>rfl
theorem a2j {k:pL}{r:List Wd}{t:pL}(h:vM k r= .beg true t):k=DM∧tP r=some t:=by
  unfold vM at h
  have one: ∀(f:pL→wQ),(∀x,f x≠.beg true t)→((tP r).map f).getD .bad≠.beg true t:=fun f hf=>by
    cases tP r with
    |none=>intro h;cases h
    |some x=>exact hf x
  split at h
  . rename_i D
    refine⟨D,?_⟩;cases ho:tP r with
    |none=>rw[ho] at h;cases h
    |some x=>rw[ho] at h;cases h;rfl
  split at h
  .exact absurd h (one _ fun x j=>by cases j)
  split at h
  .exact absurd h (one _ fun x j=>by cases j)
  split at h
  .exact absurd h (one _ fun x j=>by cases j)
  split at h
  .exact absurd h (one _ fun x j=>by cases j)
  split at h
  . cases z:FP r with
    |none=>rw[z] at h;cases h
    |some v=>rw[z] at h;cases h
  split at h
  . cases z:FQ r with
    |none=>rw[z] at h;cases h
    |some v=>rw[z] at h;cases h
  split at h
  .split at h<;>cases h
  split at h
  .split at h<;>cases h
  cases h
theorem a2k {l:List Wd}(hl:l.length≤1100000000): ∀(n i:Nat) (a:pL),i+n=l.length→a.length+(tA (l.drop i)).flatten.length≤9000000000000000000→
    ∃q,s8 (NJ l) (a,(i:Int))=some q∧(q= .inr 3∨∃z,q= .inl z)
  | 0,i,a,hi,_=>by
    have:i=l.length:=by omega
    subst this;rw[vF];unfold NJ;dsimp only;rw[aFA (wM _)];exact⟨_,rfl,.inr ⟨_,rfl⟩⟩
  | n+1,i,a,hi,hb=>by
    have h:i<l.length:=by omega
    have D:(tA (l.drop i)).flatten=l[i].2.1++(tA (l.drop (i+1))).flatten:=by
      unfold tA;rw[aGb h,aGB,aGq]
    rw[D,aFD] at hb;rw[vF];generalize j:s8 (NJ l)=F;unfold NJ;dsimp only;rw[aFz (uX h),aFz (tE h),U4 h];cases hq:l[i].1 with
    |false=>exact⟨_,rfl,.inl rfl⟩
    | true=>
      rw[aFA pR,aFz (by rw[aFD];omega),aFz (vK pP),aFC];dsimp only;rw[←j,show ((i:Int)+1)=((i+1:Nat):Int) by omega];exact a2k hl n (i+1) _ pP (by rw[aFD];omega)
def LA (w:Wd) (r:List Wd):Option pL:=match tP r with
  |some t=>if w.2.1=DM∧wN t=true then some t else none
  |none=>none
theorem a2l {w:Wd}{r:List Wd}(hq:w.1=false):BM c0 (0:Int) ([]:pL) ([]:pL) ([]:pL) ([]:pM) (0:Int) (([]:pV),()) (w::r) (some ([]:pM)) 0 (some ([]:List r6)) 0 ([]:pT)=(LA w r).map fun t=>(t,1,[],[]):=by
  unfold BM LA;rw[a2h w r hq,aFz (fun _=>y9),aFz (a2i w r)];cases j:tP r with
  |none=>rfl
  | some t=>
    have z:=QI j;subst z;have F:qR rK [w,(true,t,())] (0:Int)=w:=rfl;have E:qR rK [w,(true,t,())] (1:Int)=(true,t,()):=rfl;have D:0≤(1:Int)∧(1:Int)<(List.length [w,(true,t,())]:Int):=by simp
    rw[F,E,Gl];dsimp only;rw[aFA (show¬(!(some t).isSome)=true by simp),aFz D,aFz (fun _=>y9),aFz (fun _=>Option.isSome_some),show decide ((0:Int)=0)=true from rfl,Bool.true_and,show val (some (wN t))=wN t from rfl];by_cases h:w.2.1=DM∧wN t=true
    . rw[aFz h,show decide (w.2.1=([99,97,116,97,108,111,103]:pL))=true from aGe h.1,h.2]
      rfl
    rw[aFA h,aFA (by
      simp only[aFL,aFI];exact h)]
    rfl
theorem a2m {w:Wd}{r:List Wd}(hq:w.1=false):KN c0 (0:Int) ([]:pL) ([]:pL) ([]:pL) ([]:pM) (0:Int) (([]:pV),()) (w::r) (some ([]:pM)) 0 (some ([]:List r6)) 0 ([]:pT)=match LA w r with|some _=>none|none=>some 3:=by
  unfold KN LA;rw[a2h w r hq,aFz (fun _=>y9),aFz (a2i w r)];cases j:tP r with
  |none=>rfl
  | some t=>
    have z:=QI j;subst z;have F:qR rK [w,(true,t,())] (0:Int)=w:=rfl;have E:qR rK [w,(true,t,())] (1:Int)=(true,t,()):=rfl;have D:0≤(1:Int)∧(1:Int)<(List.length [w,(true,t,())]:Int):=by simp
    rw[F,E,Gl];dsimp only;rw[aFA (show¬(!(some t).isSome)=true by simp),aFz D,aFz (fun _=>y9),aFz (fun _=>Option.isSome_some),show decide ((0:Int)=0)=true from rfl,Bool.true_and,show val (some (wN t))=wN t from rfl];by_cases h:w.2.1=DM∧wN t=true
    . rw[aFz h,show decide (w.2.1=([99,97,116,97,108,111,103]:pL))=true from aGe h.1,h.2]
      rfl
    rw[aFA h,aFA (by
      simp only[aFL,aFI];exact h)]
    rfl
def QN (l:List Wd):Option pL:=match l with
  |[]=>none
  |w::r=>if w.1=true then none else LA w r
theorem aBm {l:List Wd}(G:l≠[]) {N:Nat}(F: ∀w∈l,B5 N w) (nx:Int):(sD tQ nx (AN l)=match QN l with|some t=>(0,yS tQ (t,tQ.c.2) t) |none=>sD tQ nx (AN l))∧(QN l=none→(sD tQ nx (AN l)).1=3):=by
  cases l with
  |nil=>exact absurd rfl G
  | cons w r=>
    have O: ∀x∈r,B5 N x:=fun x M=>F x (aFK _ M);unfold AN QN;dsimp only;by_cases hq:w.1=true
    . rw[aFz hq,aFz hq]
      refine⟨rfl,fun _=>Hw nx fun t=>?_⟩;split<;>intro D<;>cases D
    rw[aFA hq,aFA hq]
    unfold LA;cases z:tP r with
    | none=>
      refine⟨rfl,fun _=>Hw nx fun t D=>?_⟩;have:=(a2j D).2;rw[z] at this;cases this
    | some t=>
      dsimp only;by_cases E:w.2.1=DM
      . have K:vM w.2.1 r= .beg true t:=by rw[E];exact(a1L (k:=[]) z).1
        have I:sD tQ nx (.beg true t)=if wN t=true then(0,yS tQ (t,tQ.c.2) t) else(3,tQ):=by rw[sD,aFA (by simp [tQ,uP])]
        rw[K,I];by_cases j:wN t=true
        . rw[aFz j,aFz ⟨E,j⟩]
          exact⟨rfl,fun h=>by cases h⟩
        rw[aFA j,aFA (fun h=>j h.2)]
        exact⟨rfl,fun _=>rfl⟩
      rw[aFA (fun h=>E h.1)]
      exact⟨rfl,fun _=>Hw nx fun t' D=>E (a2j D).1⟩
theorem aBn {line:pL}(hl:line.length≤1100000000) (hf:DP line=false) (nx:Int):
    (∃t,tU tQ line nx=(0,yS tQ (t,tQ.c.2) t)∧UD line nx=some (t,1,[],[]))∨((tU tQ line nx).1=3∧UD line nx=none∧Hv line nx=some 3):=by
  obtain⟨v,I,hm⟩:=a1C hl
  have h:tU tQ line nx=match L7 line with|none=>(3,tQ) |some l=>sD tQ nx (AN l):=by
    unfold tU;exact(aFA (by rw[hf];simp)).trans rfl
  cases hw:L7 line with
  | none=>
    rw[hw] at hm h;have hm:v.2=false:=hm;refine .inr ⟨by rw[h],?_,?_⟩
    . unfold UD A2
      rw[I,aFC,aFz (by rw[hm];rfl)]
    . unfold Hv GX
      rw[I,aFC,aFz (by rw[hm];rfl)]
  | some l=>
    rw[hw] at hm h;have hm:v=(l,true):=hm;subst hm
    have G:line.dropWhile tO≠[]:=fun e=>by
      unfold DP at hf;rw[e] at hf;cases hf
    have D:=a1D _ _ _ hw G;have M:=ai _ _ _ hw;obtain⟨X,V⟩:=U5 _ _ _ hw;obtain⟨F,O⟩:=aBm D M nx
    have K:UD line nx=(QN l).map fun t=>(t,1,[],[]):=by
      unfold UD A2 QN;rw[I,aFC];cases l with
      |nil=>exact absurd rfl D
      | cons w r=>
        dsimp only;rw[aFA pR,aFz y9,show qR rK (w::r) (0:Int)=w from rfl];by_cases hq:w.1=true
        .rw[aFz hq,aFz hq];exact aBk _
        rw[aFA hq,aFA hq,aFz pQ]
        have hq:w.1=false:=by simpa using hq
        have E:=a2l (r:=r) hq;have hb:=a2m (r:=r) hq;unfold c0 at E hb;rw[E,hb];cases LA w r<;>rfl
    cases j:QN l with
    | some t=>
      rw[j] at F K;exact .inl ⟨t,h.trans F,K⟩
    | none=>
      rw[j] at K;refine .inr ⟨by rw[h];exact O j,K,?_⟩;unfold Hv GX;rw[I,aFC];cases l with
      |nil=>exact absurd rfl D
      | cons w r=>
        dsimp only;rw[aFA pR,aFz y9,show qR rK (w::r) (0:Int)=w from rfl];by_cases hq:w.1=true
        . rw[aFz hq]
          unfold NK;obtain⟨q,U,R⟩:=a2k (l:=w::r) pP (w::r).length 0 [] pP (by rw[aGJ,aFS];omega);have Q:s8 (NJ (w::r)) (([]:pL),(0:Int))=some q:=U;rw[Q];rcases R with rfl|⟨z,rfl⟩<;>rfl
        have j:(if w.1=true then none else LA w r)=none:=j
        rw[aFA hq] at j;rw[aFA hq,aFz pQ];have hq:w.1=false:=by simpa using hq
        have E:=a2l (r:=r) hq;have hb:=a2m (r:=r) hq;unfold c0 at E hb;rw[E,hb,j];rfl
end
noncomputable section
abbrev aBo:=Int×pL×pM×(List r6)×(List sN)×Int×pL×pL×pL×pM×Int×Nat×pV×(Option pM)×Nat×(Option (List r6))×Nat×pT×pT
abbrev a2n:=pL×pM×(List r6)×(List sN)×Int×pL×pL×pL×pM×Int×Nat×pV×(Option pM)×Nat×(Option (List r6))×Nat×pT×pT
abbrev Pg.out (P:Pg):a2n:=(P.c.1,P.c.2.1,P.c.2.2.1,P.c.2.2.2.1,P.pl,P.id,P.sc,P.tg,P.fg,P.sv,P.ap,P.ends,P.cm,P.n1,P.fl,P.n2,P.seen,P.ids)
abbrev Pg.inn (P:Pg) (a:Int):aBo:=(a,P.out)
def UE (s:pL) (ok:Option a2n) (er:Option (Int×Int)) (r:(Nat×Int)⊕St):Prop:=match r with
  | .inl q=>ok=none∧er=some ((q.1:Int),q.2)∧q.2≠0
  | .inr st=>if st.op=true∨st.ends=[] then ok=none∧er=some ((s.length:Int),3) else∃P,EG st P∧ok=some P.out
theorem Hx {s:pL}(U:s.length≤1100000000): ∀(n a:Nat) (st:St) (P:Pg),yT st→EG st P→a≤s.length→s.length<n+a→
    UE s (s8 (B1 s) (.inr (P.inn a))) (s8 (B2 s) (.inr (P.inn a))) (BX s n st a)
  |0,a,st,P,hst,hr,ha,hn=>by omega
  | n+1,a,st,P,hst,hr,ha,hn=>by
    rw[BX];by_cases h:a<s.length
    . rw[aFz h]
      obtain⟨t,hg,hd,Z,hk⟩:=a2f U h;have D:=U7 h;obtain⟨hj,hh⟩:=a2g t.1;have O:t.1.length≤1100000000:=by omega
      have M:0≤(a:Int)∧(a:Int)≤(s.length:Int)∧(s.length:Int)≤(s.length:Int):=⟨pP,pP,aGI _⟩;have I:qM ((a:Int)+(t.1.length:Int)):=by unfold qM;omega
      have E:qM (((a:Int)+(t.1.length:Int))+(1:Int)):=by unfold qM;omega
      rw[←hd];rw[vF (B1 s),vF (B2 s)];generalize R:s8 (B1 s)=F;generalize hG:s8 (B2 s)=G;unfold B1 B2;dsimp only;rw[aFz (uX h),aFz (uX h),aFz M,aFz M,hg,aFC,aFC,aFz I,aFz I,aFz E,aFz E,hj,aFC,aFC,hh,Z];cases K:DP t.1 with
      | true=>
        have Q:tU st t.1 (tI s a:Nat)=(0,st):=by unfold tU;rw[K,aFz rfl]
        rw[aFA (show¬(!true)=true by simp),aFA (show¬(!true)=true by simp),Q,aFz rfl,aFC,aFC];dsimp only;rw[←R,←hG];exact Hx U n (tI s a) st P hst hr D.2 pP
      | false=>
        rw[aFz (show (!false)=true from rfl),aFz (show (!false)=true from rfl)];obtain⟨v,hv,he,hz⟩:=aBj hst hr O K (tI s a:Nat);have Y:uZ (P.c.1,(P.c.2.1,(P.c.2.2.1,(P.c.2.2.2.1,())))) P.pl P.id P.sc P.tg P.fg P.sv P.ap (P.ends,()) t.1 ((tI s a:Nat):Int) P.cm P.n1 P.fl P.n2 P.seen P.ids=some v:=hv;rw[Y,aFC,aFC,he];by_cases h0:(tU st t.1 (tI s a:Nat)).1=0
        . rw[h0,aFA pR,aFA pR,aFz rfl,aFC,aFC]
          dsimp only;rw[←R,←hG];exact Hx U n (tI s a) _ (Hs v) (Ho hst _ _ h0) (hz h0) D.2 pP
        rw[aFz (by simp [h0]),aFz (by simp [h0]),aFA h0]
        exact⟨rfl,rfl,h0⟩
    rw[aFA h]
    have R:decide ((a:Int)<(s.length:Int))=false:=decide_eq_false pP;rw[vF (B1 s),vF (B2 s)];unfold B1 B2;dsimp only;rw[R,aFA (show¬false=true by simp),aFA (show¬false=true by simp)];unfold UE;dsimp only;by_cases z:st.op=true∨st.ends=[]
    . rw[aFz z]
      have j:P.pl≠2:=by
        rw[hr.pl];rcases z with X|X
        .rw[aFz X];split<;>decide
        rcases hr.live with V|V
        .rw[aFz V];split<;>decide
        exact absurd X V
      rw[aFz (show (!decide (P.pl=(2:Int)))=true by simp [j]),aFz (show (!decide (P.pl=(2:Int)))=true by simp [j])];exact⟨rfl,rfl⟩
    rw[aFA z]
    rw[not_or] at z;have j:P.pl=2:=by rw[hr.pl,aFA z.1,aFA z.2]
    rw[aFA (show¬(!decide (P.pl=(2:Int)))=true by simp [j])];exact⟨P,hr,rfl⟩
theorem aBp (t:pL):EG (yS tQ (t,tQ.c.2) t) ⟨(t,([],([],([],())))),1,[],[],[],[],0,0,[],some [],0,some [],0,[],[]⟩ where
  c:=rfl
  ends:=rfl
  pl:=rfl
  x:=fun _=>⟨rfl,rfl,rfl,rfl,rfl⟩
  id:=fun _ h=>absurd rfl h
  fl:=fun _=>⟨[],rfl,rfl,nodup_nil,fun h=>absurd h.symm vR.2.2.2.1⟩
  ap:=O9.symm
  seen:=fun _=>⟨rfl,rfl,rfl,rfl⟩
  ids:=fun _=>rfl
  live:= .inl rfl
theorem aBq {t:pL}{line:pL}{nx:Int}(h:tU tQ line nx=(0,yS tQ (t,tQ.c.2) t)):yT (yS tQ (t,tQ.c.2) t):=by
  have:=Ho a1K line nx (by rw[h]);rw[h] at this;exact this
theorem a2o {s:pL}(U:s.length≤1100000000): ∀(n a:Nat),a≤s.length→s.length<n+a→
    UE s (s8 (B1 s) (.inl (a:Int))) (s8 (B2 s) (.inl (a:Int))) (BX s n tQ a)
  |0,a,ha,hn=>by omega
  | n+1,a,ha,hn=>by
    rw[BX];by_cases h:a<s.length
    . rw[aFz h]
      obtain⟨t,Z,Y,X,hg⟩:=a2f U h;have z:=U7 h;obtain⟨hd,hc⟩:=a2g t.1;have M:t.1.length≤1100000000:=by omega
      have K:0≤(a:Int)∧(a:Int)≤(s.length:Int)∧(s.length:Int)≤(s.length:Int):=⟨pP,pP,aGI _⟩;have E:qM ((a:Int)+(t.1.length:Int)):=by unfold qM;omega
      have D:qM (((a:Int)+(t.1.length:Int))+(1:Int)):=by unfold qM;omega
      rw[←Y];rw[vF (B1 s),vF (B2 s)];generalize Q:s8 (B1 s)=F;generalize hG:s8 (B2 s)=G;unfold B1 B2;dsimp only;rw[aFz (uX h),aFz (uX h),aFz K,aFz K,Z,aFC,aFC,aFz E,aFz E,aFz D,aFz D,hd,aFC,aFC,hc,X];cases I:DP t.1 with
      | true=>
        have O:tU tQ t.1 (tI s a:Nat)=(0,tQ):=by unfold tU;rw[I,aFz rfl]
        rw[aFA (show¬(!true)=true by simp),aFA (show¬(!true)=true by simp),O,aFz rfl,aFC,aFC];dsimp only;rw[←Q,←hG];exact a2o U n (tI s a) z.2 pP
      | false=>
        rw[aFz (show (!false)=true from rfl),aFz (show (!false)=true from rfl)];rcases aBn M I (tI s a:Nat) with⟨x,R,V⟩ |⟨R,V,h3⟩
        . have j:A2 (([]:pL),(([]:pM),(([]:List r6),(([]:List sN),())))) (0:Int) ([]:pL) ([]:pL) ([]:pL) ([]:pM) (0:Int) (([]:pV),()) t.1 ((tI s a:Nat):Int) (some ([]:pM)) 0 (some ([]:List r6)) 0 ([]:pT)=some (x,1,[],[]):=V
          rw[j,R];simp only[Option.isSome_some,↓reduceIte,aFC,decide_true,Bool.not_true,aG2];rw[←Q,←hG];exact Hx U n (tI s a) _ _ (aBq R) (aBp x) z.2 pP
        have j:A2 (([]:pL),(([]:pM),(([]:List r6),(([]:List sN),())))) (0:Int) ([]:pL) ([]:pL) ([]:pL) ([]:pM) (0:Int) (([]:pV),()) t.1 ((tI s a:Nat):Int) (some ([]:pM)) 0 (some ([]:List r6)) 0 ([]:pT)=none:=V
        have he:GX (([]:pL),(([]:pM),(([]:List r6),(([]:List sN),())))) (0:Int) ([]:pL) ([]:pL) ([]:pL) ([]:pM) (0:Int) (([]:pV),()) t.1 ((tI s a:Nat):Int) (some ([]:pM)) 0 (some ([]:List r6)) 0 ([]:pT)=some 3:=h3;rw[j,he,R];simp only[Option.isSome_none,aG2,↓reduceIte,aFC];rw[aFz (show (!decide ((3:Int)=(0:Int)))=true from rfl),aFz (show (!decide ((3:Int)=(0:Int)))=true from rfl),aFA (show¬(3:Int)=0 by decide)];exact⟨rfl,rfl,show (3:Int)≠0 by decide⟩
    rw[aFA h]
    have Q:decide ((a:Int)<(s.length:Int))=false:=decide_eq_false pP;rw[vF (B1 s),vF (B2 s)];unfold B1 B2;dsimp only;rw[Q,aFA (show¬false=true by simp),aFA (show¬false=true by simp),aFz (show (!decide ((0:Int)=(2:Int)))=true from rfl),aFz (show (!decide ((0:Int)=(2:Int)))=true from rfl)];exact⟨rfl,rfl⟩
theorem a2p {s:pL}(D:s.length≤1100000000):match DQ s with
    | .inl q=>v6 s=none∧L2 s=some ((q.1:Int),q.2)∧q.2≠0
    | .inr st=> ∃P,EG st P∧v6 s=some P.out∧st.op=false∧st.ends≠[]:=by
  have h:=a2o D (s.length+1) 0 (aGu _) pP;unfold DQ;unfold v6 L2;have j:UE s (s8 (B1 s) (.inl (0:Int))) (s8 (B2 s) (.inl (0:Int))) (BX s (s.length+1) tQ 0):=h;cases hr:BX s (s.length+1) tQ 0 with
  |inl q=>rw[hr] at j;exact j
  | inr st=>
    rw[hr] at j;unfold UE at j;dsimp only at j|-;by_cases z:st.op=true∨st.ends=[]
    . rw[aFz z] at j|-
      exact⟨j.1,j.2,show (3:Int)≠0 by decide⟩
    rw[aFA z] at j|-
    obtain⟨P,F,E⟩:=j;rw[not_or] at z;exact⟨P,F,E,by simpa using z.1,z.2⟩
def aBr:(Nat×Int)⊕St→pL×pM×(List r6)×(List sN)×Int×Int
  | .inl q=>([],[],[],[],(q.1:Int),q.2)
  | .inr st=>(st.c.1,st.c.2.1,st.c.2.2.1,st.c.2.2.2.1,0,0)
theorem a2q {s:pL}(D:s.length≤1100000000):zM s=some (aBr (DQ s)):=by
  have h:=a2p D;unfold zM;cases hr:DQ s with
  | inl q=>
    rw[hr] at h;obtain⟨z,j,h3⟩:=h;rw[z,j,aFA pR,aFC,aFz (by simpa using h3)];rfl
  | inr st=>
    rw[hr] at h;obtain⟨P,z,j,_⟩:=h;rw[j,aFz (show (some P.out).isSome=true from rfl),aFC,aFA (show¬(!decide ((0:Int)=(0:Int)))=true by decide)];show some (P.c.1,P.c.2.1,P.c.2.2.1,P.c.2.2.2.1,(0:Int),(0:Int))=_;rw[z.c];rfl
end
noncomputable section
def UF (a:Nat) (ends:pV):Prop:= ∃l:pZ,ends=l.map (fun n:Nat=>(n:Int))∧l.Pairwise (·≤·)∧∀x∈l,x≤a
theorem Hy {a b:Nat}(h:a≤b) {e:pV}(z:UF a e):UF b e:=by
  obtain⟨l,E,D,h3⟩:=z;exact⟨l,E,D,fun x j=>aGA (h3 x j) h⟩
theorem aBs (s:St) (n:Int) (c:wQ):(sD s n c).2.ends=s.ends∨(sD s n c).2.ends=s.ends++[n]:=by
  cases c with
  |cont t=>exact .inl (aAY s n t).2.1
  |beg h t=>cases h<;>(rw[sD];repeat' split)<;>exact .inl rfl
  | fin=>
    rw[sD];split
    .exact .inl rfl
    .exact .inr rfl
  |bad=>exact .inl rfl
  | com t => rw[sD];repeat' split
             all_goals exact .inl rfl
  | src t => rw[sD];repeat' split
             all_goals exact .inl rfl
  | tgt t => rw[sD];repeat' split
             all_goals exact .inl rfl
  | sta v => rw[sD];repeat' split
             all_goals exact .inl rfl
  | fld m v => rw[sD];repeat' split
               all_goals exact .inl rfl
  | flg l => rw[sD];repeat' split
             all_goals exact .inl rfl
theorem aBt (s:St) (line:pL) (n:Int):(tU s line n).2.ends=s.ends∨(tU s line n).2.ends=s.ends++[n]:=by
  unfold tU;split
  .exact .inl rfl
  split
  .exact .inl rfl
  exact aBs _ _ _
theorem a2r {s:pL}: ∀(n a:Nat) (st st':St),a≤s.length→UF a st.ends→BX s n st a= .inr st'→UF s.length st'.ends
  |0,a,st,st',z,h,e=>by cases e;exact Hy z h
  | n+1,a,st,st',z,h,e=>by
    rw[BX] at e;split at e
    . rename_i F
      have E:=U7 F;split at e
      . refine a2r n (tI s a) _ st' E.2 ?_ e
        rcases aBt st (uB (FS s a)) (tI s a:Nat) with D|D
        .rw[D];exact Hy pP h
        rw[D]
        obtain⟨l,g1,g2,g3⟩:=h;refine⟨l++[tI s a],by rw[g1,map_append];rfl,aHv.2 ⟨g2,pairwise_singleton _ _,fun x j y G=>?_⟩,fun x j=>?_⟩
        .rw[aFR.1 G];have:=g3 x j;omega
        rcases aGl.1 j with j|j
        .have:=g3 x j;omega
        rw[aFR.1 j];exact aFW _
      cases e
    cases e;exact Hy z h
theorem aBu {s:pL}{st:St}(h:DQ s= .inr st):yT st∧st.op=false∧st.ends≠[]∧UF s.length st.ends∧wP st.c=true:=by
  unfold DQ at h;cases hr:BX s (s.length+1) tQ 0 with
  |inl q=>rw[hr] at h;cases h
  | inr st'=>
    rw[hr] at h;dsimp only at h;split at h
    .cases h
    rename_i z
    cases h;rw[not_or] at z;have j:=a1M _ _ _ a1K hr;exact⟨j,by simpa using z.1,z.2,a2r _ _ _ _ (aGu _) ⟨[],rfl,List.Pairwise.nil,fun x D=>(by cases D)⟩ hr,aAw (j.tag (.inl z.2)) j.hcm j.hfd j.es⟩
theorem aBv:QC=some true:=by kernel_rfl
end
def aBw (s:pL) (j:s9 s):NL s=some (wN s):=by
 unfold s9 at j;have h:=J0 (f:=T5 s) (l:=s) (fun b=>O2 b.toNat) (fun _=>false) (fun i h=>by
  unfold T5;rw[aFz (uX h),aFz (tE h),IZ h,aFz (vK pP)];rfl) (by
  unfold T5;rw[aFA (wM _)])
 unfold NL;rw[h,O1];unfold wN;cases s.any fun b=>O2 b.toNat<;>rfl
def a2s (s:pL) (E:s9 s):KQ s=some (uU s):=by
 unfold s9 at E;unfold KQ;cases s with
 |nil=>simp [uU]
 |cons b t=>
  have D:sE (b::t) (0:Int)=(b.toNat:Int):=IZ (i:=0) pR;rw[aFz (fun _=>⟨aGI 0,by simp only[aFF];omega⟩),D];unfold uU;by_cases hl:(40:Int)<((b::t).length:Int)
  .have j:40<t.length+1:=by simp only[aFF] at hl;omega
   rw[aFz (by simp only[hl,decide_true,Bool.or_true,Bool.true_or])];simp [j]
  have j: ¬40<t.length+1:=by simp only[aFF] at hl;omega
  have z: ¬((b::t).length:Int)<1:=by simp;omega
  by_cases hb:A4 b.toNat=true
  .rw[aFA (by unfold A4 at hb;simp only[hl,z,hb];simp)];have h:=Gk (f:=T6 (b::t)) (l:=b::t) (fun b=>yP b.toNat) (fun _=>false) (fun i h=>by
    unfold T6;rw[aFz (uX h),aFz (tE h),IZ h,aFz (vK pP)];rfl) (by
    unfold T6;rw[aFA (wM _)]) t.length 1 pS
   rw[show ((1:Nat):Int)=1 from rfl] at h;rw[h,O1];simp only[aHz,aGJ,hb,j,decide_false,Bool.not_false,Bool.true_and];cases t.any fun b=>yP b.toNat<;>rfl
  rw[aFz (by unfold A4 at hb;simp only[hb];simp)];simp [hb]
def xO {p:Prop}{α:Type}{v:α}:p->(some v).isSome=true:=fun _=>rfl
def UG {ρ:Type}{f:Int->Option (Int⊕(Unit⊕ρ))}{n:Nat}(p:Nat->Bool) (g:Nat->ρ)
  (hf: ∀(i:Nat),i<n->f i=if p i=true then some (.inr (.inr (g i))) else some (.inl (i+1)))
  (j:f n=some (.inr (.inl ()))):s8 f 0=some (zC (fun k=> .inr (g k)) (.inl ()) ((List.range n).findIdx? p)):=by
 refine J0 (l:=List.range n) p g (fun i h=>?_) (by rw[length_range];exact j);have hi:i<n:=by rw[length_range] at h;exact h
 rw[getElem_range];exact hf i hi
def UH {n:Nat}{p:Nat->Bool}{b:Bool}:tN (some (zC (fun _=>Sum.inr false) (Sum.inl ()) ((List.range n).findIdx? p))) (fun _:Unit=>some b)=some (!((List.range n).any p)&&b):=by
 rw[O1];cases(List.range n).any p<;>rfl
def aBx {α:Type}{l:List α}{p:α->Bool}{b:Bool}:tN (some (zC (fun _=>Sum.inr false) (Sum.inl ()) (l.findIdx? p))) (fun _:Unit=>some b)=some (!(l.any p)&&b):=by
 rw[O1];cases l.any p<;>rfl
def a2t (l:pM) (hl:s9 l) (j: ∀x∈l,s9 x):BT l=some (w8 l):=by
 unfold s9 at hl;have h:=J0 (f:=TG l) (l:=l) (fun x=> !sU x) (fun _=>false) (fun i h=>by
  obtain⟨D,z⟩:=TS l[i] (j _ (aGp h));unfold TG;rw[aFz (uX h),aFz (tE h),EF (t:= .str) h,D,aFC,z,aFz (vK pP)]) (by
  unfold TG;rw[aFA (wM _)])
 unfold BT;rw[h,aBx,w8,Bool.and_comm]
def aBy (l:pM) (hl:s9 l) (j: ∀x∈l,s9 x):CI l=some (l.any fun x=> !sU x):=by
 unfold s9 at hl;have h:=J0 (f:=TC l) (l:=l) (fun x=> !sU x) (fun k=>(k:Int)) (fun i h=>by
  have z:=O5 l[i] (j _ (aGp h));unfold TC TB;rw[aFz (uX h),aFz (tE h),EF (t:= .str) h,z,aFC,aFC,aFz (vK pP)];rfl) (by
  unfold TC;rw[aFA (wM _)])
 unfold CI Q5;rw[h,TR];show some (decide _)=_;rw[a1a]
def a2u (l:pM) (hl:s9 l) (h: ∀x∈l,s9 x):NV l=some ()/\((decide ((l.length:Int)<=20))&&(!(val (CI l))))=w8 l:=by
 unfold NV;rw[aBy l hl h];exact⟨aFz xO,rfl⟩
def Hz {l:pM}{i:Nat}:qR .str l (i:Int)=l.getD i []:=by unfold qR;rw[aGz];rfl
def a2v {l:pM}{i:Nat}:qR .str l ((i:Int)-1)=l.getD (i-1) []:=by
 unfold qR;rw[show ((i:Int)-1).toNat=i-1 by omega];rfl
def al {i:Nat}:decide ((0:Int)<(i:Int))=decide (0<i):=by simp
def aBz (l:pM) (hl:s9 l):IE l=some (CJ l):=by
 unfold s9 at hl;have h:=UG (f:=SP l) (n:=l.length) (TT l) (fun _=>false) (fun i h=>by
  unfold SP;rw[aFz (uX h),aFz (tE h),Hz,a2v,ZQ,aFC,al];have h0: ∀q:Bool,((q==false)&&(decide (0<i)==true))=true->0<i:=fun q hq=>by
   simp only[aFL,aHc,aFI] at hq;exact hq.2
  rw[aFz (fun hq=>by have:=h0 _ hq;unfold qM;omega),aFz (fun hq=>by have:=h0 _ hq;omega),aFz (vK pP)];rfl) (by
  unfold SP;rw[aFA (wM _)])
 unfold IE;rw[h,UH];rfl
def aBA (l:pM) (hl:s9 l) (j: ∀x∈l,s9 x):FB l=some (CJ l):=by
 unfold s9 at hl;have h:=UG (f:=T8 l) (n:=l.length) (TT l) (fun _=>false) (fun i h=>by
  unfold T8;have hf:s9 (l.getD i []):=by rw[aFV,aFG h];exact j _ (aGp h)
  rw[aFz (uX h),aFz (tE h),Hz,a2v,a2s _ hf,aFC,al];have h0: ∀q:Bool,((q==false)&&(decide (0<i)==true))=true->0<i:=fun q hq=>by
   simp only[aFL,aHc,aFI] at hq;exact hq.2
  rw[aFz (fun _=>tE h),aFz (fun hq=>by have:=h0 _ hq;unfold qM;omega),aFz (fun hq=>by have:=h0 _ hq;omega),aFz (vK pP),<-Gu];rfl) (by
  unfold T8;rw[aFA (wM _)])
 unfold FB;rw[h,UH];rfl
def Ia {l:List sX}{i:Nat}:qR rM l (i:Int)=l.getD i fD:=by unfold qR;rw[aGz];rfl
def a2w {l:List sX}{i:Nat}:qR rM l ((i:Int)-1)=l.getD (i-1) fD:=by
 unfold qR;rw[show ((i:Int)-1).toNat=i-1 by omega];rfl
def UI (x:sX):Prop:=s9 x.1/\s9 x.2.1
def OB {α:Type}{l:List α}{i:Nat}{d:α}(h:i<l.length):l.getD i d∈l:=by
 rw[aFV,aFG h];exact aGp h
def aq {i:Nat}{q:Bool}(hq:((q==false)&&(decide (0<i)==true))=true):0<i:=by
 simp only[aFL,aHc,aFI] at hq;exact hq.2
def a2x (l:List sX) (hl:s9 l) (j: ∀x∈l,UI x):GT l=some (vQ l):=by
 unfold s9 at hl;have h:=UG (f:=T9 l) (n:=l.length) (TU l) (fun _=>false) (fun i h=>by
  unfold T9;have hf:=j _ (OB (d:=fD) h);rw[aFz (uX h),aFz (tE h),Ia,a2w,ZQ,aFC,al,O5 _ hf.2];rw[aFz xO,aFz (fun hq=>by have:=aq hq;unfold qM;omega),aFz (fun hq=>by have:=aq hq;omega),aFz (vK pP)];rfl) (by
  unfold T9;rw[aFA (wM _)])
 unfold GT;rw[h,UH];rfl
def a2y (l:List sX) (hl:s9 l) (j: ∀x∈l,UI x):EE l=some (vQ l):=by
 unfold s9 at hl;have h:=UG (f:=TH l) (n:=l.length) (TU l) (fun _=>false) (fun i h=>by
  unfold TH;have hf:=j _ (OB (d:=fD) h);obtain⟨D,z⟩:=TS _ hf.2;rw[aFz (uX h),aFz (tE h),Ia,a2w,a2s _ hf.1,aFC,al,D,z];rw[aFz (fun _=>tE h),aFz xO,aFz (fun _=>tE h),aFz (fun hq=>by have:=aq hq;unfold qM;omega),aFz (fun hq=>by have:=aq hq;omega),aFz (vK pP),<-Gu];rfl) (by
  unfold TH;rw[aFA (wM _)])
 unfold EE;rw[h,UH];rfl
structure au (x:tT):Prop where
 id:s9 x.1
 src:s9 x.2.1
 tgt:s9 x.2.2.1
 com:s9 x.2.2.2.1/\∀y∈x.2.2.2.1,s9 y
 flg:s9 x.2.2.2.2.1/\∀y∈x.2.2.2.2.1,s9 y
 fld:s9 x.2.2.2.2.2.2.1/\∀y∈x.2.2.2.2.2.2.1,UI y
def aBB (x:tT) (h:au x):KZ x=some (zF x):=by
 obtain⟨t1,t2⟩:=a2u _ h.com.1 h.com.2;have e1:=aBz _ h.flg.1;have e2:=a2x _ h.fld.1 h.fld.2;unfold KZ;rw[O5 _ h.id,O5 _ h.src,O5 _ h.tgt,t1,t2,e1,e2];have k: ∀s:pL,(decide ((s.length:Int)<=4000)&&validD s)=sU s:=fun s=>rfl;rw[aFz xO,aFC,aFz xO,aFz xO,aFz xO,aFz xO,k,k,k];unfold zF;show (if _ then some false else some _)=_;have a1:decide ((200:Int)<(x.1.length:Int))= !decide ((x.1.length:Int)<=200):=by rw[<-decide_not];exact aG4.2 pP
 have a2:decide (x.2.2.2.2.2.1<(0:Int))= !decide ((0:Int)<=x.2.2.2.2.2.1):=by rw[<-decide_not];exact aG4.2 pP
 have a3:decide ((4:Int)<x.2.2.2.2.2.1)= !decide (x.2.2.2.2.2.1<=(4:Int)):=by rw[<-decide_not];exact aG4.2 pP
 rw[a1,a2,a3];show (if _ then some false else some (((((sU x.2.1&&sU x.2.2.1)&&w8 x.2.2.2.1)&&CJ x.2.2.2.2.1))&&vQ x.2.2.2.2.2.2.1))=_;generalize decide (x.1=[])=b1;generalize decide ((x.1.length:Int)<=200)=b2;generalize sU x.1=b3;generalize sU x.2.1=b4;generalize sU x.2.2.1=b5;generalize w8 x.2.2.2.1=b6;generalize CJ x.2.2.2.2.1=b7;generalize decide ((0:Int)<=x.2.2.2.2.2.1)=b8;generalize decide (x.2.2.2.2.2.1<=(4:Int))=b9;generalize vQ x.2.2.2.2.2.2.1=b10;cases b1<;>cases b2<;>cases b3<;>cases b8<;>cases b9<;>simp
def aBC (x:tT) (h:au x):Q7 x=some ()/\((((((((((!decide (x.1=([]:pL)))&&(decide ((x.1.length:Int)<=(200:Int))))&&((decide ((x.1.length:Int)<=(4000:Int)))&&(val (uR x.1))))&&((decide ((x.2.1.length:Int)<=(4000:Int)))&&(val (uR x.2.1))))&&((decide ((x.2.2.1.length:Int)<=(4000:Int)))&&(val (uR x.2.2.1))))&&(val (BT x.2.2.2.1)))&&(val (FB x.2.2.2.2.1)))&&(decide ((0:Int)<=x.2.2.2.2.2.1)))&&(decide (x.2.2.2.2.2.1<=(4:Int))))&&(val (EE x.2.2.2.2.2.2.1)))=zF x:=by
 obtain⟨u1,v1⟩:=TS _ h.id;obtain⟨u2,v2⟩:=TS _ h.src;obtain⟨u3,v3⟩:=TS _ h.tgt;have e0:=a2t _ h.com.1 h.com.2;have e1:=aBA _ h.flg.1 h.flg.2;have e2:=a2y _ h.fld.1 h.fld.2;unfold Q7;rw[u1,u2,u3,v1,v2,v3,e0,e1,e2];refine⟨?_,?_⟩
 .rw[aFz xO,aFz xO,aFz xO,aFz xO,aFz xO,aFz xO]
 unfold zF;show (((((((((!_&&_)&&_)&&_)&&_)&&w8 x.2.2.2.1)&&CJ x.2.2.2.2.1)&&_)&&_)&&vQ x.2.2.2.2.2.2.1)=_;simp only[Bool.and_assoc]
def Ib (ids:pT) (es:List sN):Prop:= ∀x,sT .str .bool ids x=es.any fun y=>decide (y.1=x)
def aBD {ids:pT}{es:List sN}(h:Ib ids es) (e:sN) (x:pL) (z:e.1=x):Ib (t6 .str .bool x true ids) (es++[e]):=by
 intro y;rw[xM,any_append,<-h y];by_cases j:y=x
 .rw[aFz j];simp [z,j]
 rw[aFA j];have:decide (e.1=y)=false:=by rw[z];simpa using fun D=>j D.symm
 simp [this]
def Ic {l:List tT}{i:Nat}:qR sR l (i:Int)=l.getD i eD:=by unfold qR;rw[aGz];rfl
structure UJ (c:C4):Prop where
 tag:s9 c.1
 com:s9 c.2.1/\∀y∈c.2.1,s9 y
 fld:s9 c.2.2.1/\∀y∈c.2.2.1,UI y
 len:c.2.2.2.1.length<=5000
 ent: ∀x∈c.2.2.2.1,au x
def aBE {α:Type}{l:List α}{i:Nat}{d:α}(h:i<l.length):l.take (i+1)=l.take i++[l.getD i d]:=by
 rw[take_add_one,aFG h,aFV,aFG h];rfl
def a2z {c:C4}(j:UJ c): ∀(n i:Nat) (m:pT),i+n=c.2.2.2.1.length->Ib m (c.2.2.2.1.take i)->
  s8 (NW c) ((i:Int),m)=some (if (List.range' i n).any (FM c.2.2.2.1)=true then .inr false else .inl ())
 |0,i,m,hi,_=>by
  have:i=c.2.2.2.1.length:=by omega
  subst this;refine z7 ?_;unfold NW;dsimp only;rw[aFA (wM _)];rfl
 |n+1,i,m,hi,hm=>by
  have h:i<c.2.2.2.1.length:=by omega
  have z:=j.ent _ (OB (d:=eD) h);have hl:=j.len;have hst:NW c ((i:Int),m)=if FM c.2.2.2.1 i=true then some (.inr (.inr false)) else some (.inl (((i+1:Nat):Int),t6 .str .bool (c.2.2.2.1.getD i eD).1 true m)):=by
   unfold NW;dsimp only;rw[aFz (uX h),aFz (tE h),Ic,hm,aBB _ z,aFz xO,aFz (vK pP)];rfl
  rw[aHn,any_cons];by_cases hb:FM c.2.2.2.1 i=true
  .rw[aFz hb] at hst;rw[hb,Bool.true_or,aFz rfl];exact z7 hst
  rw[aFA hb] at hst;rw[I4 hst,a2z j n (i+1) _ pP (by rw[aBE (d:=eD) h];exact aBD hm _ _ rfl)];simp only[aGQ] at hb;rw[hb,Bool.false_or]
def aBF {c:C4}(h:UJ c):NX c=some (wP c):=by
 obtain⟨t1,t2⟩:=a2u _ h.com.1 h.com.2;have e2:=a2x _ h.fld.1 h.fld.2;have j:=a2z h c.2.2.2.1.length 0 [] pP (fun x=>by rfl);rw[<-range_eq_range'] at j;have z:s8 (NW c) ((0:Int),[])=_:=j;have a1:decide ((1000:Int)<(c.2.2.2.1.length:Int))= !decide ((c.2.2.2.1.length:Int)<=1000):=by rw[<-decide_not];exact aG4.2 pP
 unfold NX;rw[Gl,aFC,t1,t2,e2,aFz xO,aFz xO,z,a1];unfold wP;show (if (((!wN c.1)||(!w8 c.2.1))||(!vQ c.2.2.1)||_)=true then some false else _)=_
 generalize wN c.1=b1;generalize w8 c.2.1=b2;generalize vQ c.2.2.1=b3;generalize decide ((c.2.2.2.1.length:Int)<=1000)=b4;generalize (List.range c.2.2.2.1.length).any (FM c.2.2.2.1)=b5;cases b1<;>cases b2<;>cases b3<;>cases b4<;>cases b5<;>rfl
def aBG {es:List tT}{i:Nat}(h:i<es.length):decide ((He es (es.getD i eD).1).1=(i:Int))= !((es.take i).any fun y=>decide (y.1=(es.getD i eD).1)):=by
 have G:es.getD i eD=es[i]:=by rw[aFV,aFG h];rfl
 unfold He;cases hf:es.findIdx? fun y=>decide (y.1=(es.getD i eD).1) with
 |none=>
  have:=aGr.1 hf es[i] (aGp h);rw[G] at this;simp at this
 |some k=>
  obtain⟨O,I,F⟩:=aGE.1 hf;simp only[aFI,aGd] at I F;show decide ((k:Int)=(i:Int))=_;rw[aHi,aFI,aF2,aGg];have M:k<=i:=by
   rcases aGN i k with z|D
   .exact absurd (aFZ Prod.fst G.symm) (F i z)
   exact D
  constructor
  .intro Q x hxm;obtain⟨j,K,rfl⟩:=aGW hxm;rw[aGh] at K;rw[getElem_take];have:=F j pP;simpa using this
  intro E;rcases aGN k i with z|D
  .have:=E es[k] (by rw[aHw];exact⟨k,pP,rfl⟩);simp [I] at this
  omega
def aBH (c:C4) (h:UJ c):NY c=some ((wN c.1&&w8 c.2.1)&&vQ c.2.2.1):=by
 unfold NY;rw[aBw _ h.tag,aFC,a2t _ h.com.1 h.com.2,a2y _ h.fld.1 h.fld.2,aFz xO,aFz xO];rfl
def a2A {c:C4}(j:UJ c):GW c=some (wP c):=by
 have hl:=j.len;have h:=UG (f:=TL c) (n:=c.2.2.2.1.length) (FM c.2.2.2.1) (fun _=>false) (fun i h=>by
  have z:=j.ent _ (OB (d:=eD) h);obtain⟨u,v⟩:=aBC _ z;unfold TL;rw[aFz (uX h),aFz (tE h),Ic,aAo c _ hl,aFC,aFz (fun _=>tE h),u,aFz xO,v,aBG h,aFz (vK pP),Bool.not_not];rfl) (by
  unfold TL;rw[aFA (wM _)])
 have a1:decide ((1000:Int)<(c.2.2.2.1.length:Int))= !decide ((c.2.2.2.1.length:Int)<=1000):=by rw[<-decide_not];exact aG4.2 pP
 unfold GW;rw[aBH c j,aFC,h,UH,a1];unfold wP;generalize ((wN c.1&&w8 c.2.1)&&vQ c.2.2.1)=b1;generalize decide ((c.2.2.2.1.length:Int)<=1000)=b2;generalize (List.range c.2.2.2.1.length).any (FM c.2.2.2.1)=b3;cases b1<;>cases b2<;>cases b3<;>rfl
def v7:Nat:=140737488351232
def a2B {l:pM}(hl:l.length<=v7) (j: ∀x∈l,x.length<=v7): ∀(m i:Nat) (n:Int),i+m=l.length->0<=n->n<=1125899906842624->
  ∃r,s8 (KC l) (n,(i:Int))=some r/\n<=r/\r<=1125899906842624/\(r<1099511627776->∀x∈l.drop i,n+(x.length:Int)<=r)
 |0,i,n,hi,h0,z=>by
  have:i=l.length:=by omega
  subst this;refine⟨n,z7 ?_,aGI _,z,fun _ x j=>by rw[aGs] at j;cases j⟩;unfold KC;dsimp only;rw[aFA pR]
 |m+1,i,n,hi,h0,z=>by
  have h:i<l.length:=by omega
  by_cases E:n<1099511627776
  .have D:=j _ (aGp h);unfold v7 at D hl;have hst:KC l (n,(i:Int))=some (.inl (n+(l[i].length:Int),((i+1:Nat):Int))):=by
    unfold KC;dsimp only;rw[aFz (by simp [h,E]),aFz (tE h),EF (t:= .str) h,aFz (by unfold qM;omega),aFz (by unfold qM;omega)];rfl
   obtain⟨r,e,e1,e2,e3⟩:=a2B (by unfold v7;exact hl) j m (i+1) (n+(l[i].length:Int)) pP pP pP;refine⟨r,by rw[I4 hst,e],pP,e2,fun hr x hxm=>?_⟩;rw[aGb h] at hxm;rcases aFN.1 hxm with rfl|hxm
   .omega
   have:=e3 hr x hxm;omega
  refine⟨n,z7 ?_,aGI _,z,fun hr=>by omega⟩;unfold KC;dsimp only;rw[aFA (by simp [E])]
def a2C {l:List sX}(hl:l.length<=v7) (j: ∀x∈l,x.1.length<=v7/\x.2.1.length<=v7): ∀(m i:Nat) (n:Int),i+m=l.length->0<=n->n<=1125899906842624->
  ∃r,s8 (KD l) (n,(i:Int))=some r/\n<=r/\r<=1125899906842624/\(r<1099511627776->∀x∈l.drop i,n+(x.1.length:Int)+(x.2.1.length:Int)<=r)
 |0,i,n,hi,h0,z=>by
  have:i=l.length:=by omega
  subst this;refine⟨n,z7 ?_,aGI _,z,fun _ x j=>by rw[aGs] at j;cases j⟩;unfold KD;dsimp only;rw[aFA pR]
 |m+1,i,n,hi,h0,z=>by
  have h:i<l.length:=by omega
  by_cases E:n<1099511627776
  .have D:=j _ (aGp h);unfold v7 at D hl;have hst:KD l (n,(i:Int))=some (.inl (n+(l[i].1.length:Int)+(l[i].2.1.length:Int),((i+1:Nat):Int))):=by
    unfold KD;dsimp only;rw[aFz (by simp [h,E]),aFz (tE h),EF (t:= .pair .str (.pair .str .unit)) h,aFz (by unfold qM;omega),aFz (tE h),aFz (by unfold qM;omega),aFz (by unfold qM;omega)];rfl
   obtain⟨r,e,e1,e2,e3⟩:=a2C (by unfold v7;exact hl) j m (i+1) (n+(l[i].1.length:Int)+(l[i].2.1.length:Int)) pP pP pP;refine⟨r,by rw[I4 hst,e],pP,e2,fun hr x hxm=>?_⟩;rw[aGb h] at hxm;rcases aFN.1 hxm with rfl|hxm
   .omega
   have:=e3 hr x hxm;omega
  refine⟨n,z7 ?_,aGI _,z,fun hr=>by omega⟩;unfold KD;dsimp only;rw[aFA (by simp [E])]
def FU (l:pM):Prop:=l.length<=6000/\∀x∈l,x.length<=6000
def LB (l:List sX):Prop:=l.length<=6000/\∀x∈l,x.1.length<=6000/\x.2.1.length<=6000
def Id {l:pM}{f:List sX}(hl:l.length<=v7) (D: ∀x∈l,x.length<=v7) (hf:f.length<=v7) (z: ∀x∈f,x.1.length<=v7/\x.2.1.length<=v7):
  ∃r,zX l f=some r/\0<=r/\r<=1125899906842624/\(r<=6000->FU l/\LB f):=by
 have h:=hl;have j:=hf;unfold v7 at h j;obtain⟨r,e,e1,e2,e3⟩:=a2B hl D l.length 0 ((l.length:Int)+(f.length:Int)) pP pP pP;obtain⟨r',k,k1,k2,k3⟩:=a2C hf z f.length 0 r pP pP e2;have e':s8 (KC l) ((l.length:Int)+(f.length:Int),(0:Int))=some r:=e;have k':s8 (KD f) (r,(0:Int))=some r':=k;refine⟨r',?_,pP,k2,fun hr=>⟨⟨pP,fun x hxm=>?_⟩,⟨pP,fun x hxm=>?_⟩⟩⟩
 .unfold zX;rw[aFz (by unfold qM;omega),e'];unfold uO;rw[aFC,k',aFC]
 .have:=e3 pP x (by rw[aGJ];exact hxm);omega
 have:=k3 pP x (by rw[aGJ];exact hxm);omega
structure Ie (x:tT):Prop where
 id:x.1.length<=v7
 src:x.2.1.length<=v7
 tgt:x.2.2.1.length<=v7
 com:x.2.2.2.1.length<=v7/\∀y∈x.2.2.2.1,y.length<=v7
 flg:x.2.2.2.2.1.length<=v7/\∀y∈x.2.2.2.2.1,y.length<=v7
 fld:x.2.2.2.2.2.2.1.length<=v7/\∀y∈x.2.2.2.2.2.2.1,y.1.length<=v7/\y.2.1.length<=v7
structure OC (x:tT):Prop where
 id:x.1.length<=6000
 src:x.2.1.length<=6000
 tgt:x.2.2.1.length<=6000
 com:FU x.2.2.2.1
 flg:FU x.2.2.2.2.1
 fld:LB x.2.2.2.2.2.2.1
def aBI (x:tT) (h:Ie x): ∃b:Bool,PX x=some ()/\
  ((decide ((((x.1.length:Int)+(x.2.1.length:Int))+(x.2.2.1.length:Int))<=(6000:Int)))&&(decide (((val (zX x.2.2.2.1 x.2.2.2.2.2.2.1))+(val (zX x.2.2.2.2.1 ([]:List r6))))<=(6000:Int))))=b/\(b=true->OC x):=by
 obtain⟨r,e,e1,e2,e3⟩:=Id h.com.1 h.com.2 h.fld.1 h.fld.2;obtain⟨r',k,k1,k2,k3⟩:=Id (f:=[]) h.flg.1 h.flg.2 (by unfold v7;simp) (fun x z=>by cases z);have a1:=h.id;have a2:=h.src;have a3:=h.tgt;unfold v7 at a1 a2 a3;refine⟨_,?_,rfl,fun hb=>?_⟩
 .unfold PX;rw[e,k,aFz (by unfold qM;omega),aFz (by unfold qM;omega),aFz xO,aFz xO,aFz (fun _=>by show qM (r+r');unfold qM;omega)]
 rw[e,k] at hb;simp only[aFL,aFI] at hb;obtain⟨D,j⟩:=hb;have j:r+r'<=6000:=j;obtain⟨p,q⟩:=e3 pP;obtain⟨p',_⟩:=k3 pP;exact⟨pP,pP,pP,p,p',q⟩
structure av (c:C4):Prop where
 tag:c.1.length<=v7
 com:c.2.1.length<=v7/\∀y∈c.2.1,y.length<=v7
 fld:c.2.2.1.length<=v7/\∀y∈c.2.2.1,y.1.length<=v7/\y.2.1.length<=v7
 ent: ∀x∈c.2.2.2.1,Ie x
structure J5 (c:C4):Prop where
 tag:c.1.length<=100
 com:FU c.2.1
 fld:LB c.2.2.1
 len:c.2.2.2.1.length<=1000
 ent: ∀x∈c.2.2.2.1,OC x
def a2D {c:C4}(z:av c) (hl:c.2.2.2.1.length<=12): ∀(n i:Nat),i+n=c.2.2.2.1.length->
  ∃r,s8 (NR c) (i:Int)=some r/\(r= .inr false\/(r= .inl ()/\∀x∈c.2.2.2.1.drop i,OC x))
 |0,i,hi=>by
  have:i=c.2.2.2.1.length:=by omega
  subst this;refine⟨.inl (),z7 ?_,.inr ⟨rfl,fun x j=>by rw[aGs] at j;cases j⟩⟩;unfold NR;rw[aFA (wM _)]
 |n+1,i,hi=>by
  have h:i<c.2.2.2.1.length:=by omega
  obtain⟨b,e1,e2,e3⟩:=aBI _ (z.ent _ (aGp h));have hst:NR c (i:Int)=if (!b)=true then some (.inr (.inr false)) else some (.inl ((i+1:Nat):Int)):=by
   unfold NR;rw[aFz (uX h),aFz (tE h),EF (t:=sR) h,e1,aFC,e2,aFz (vK pP)];rfl
  cases b with
  |false=>exact⟨_,z7 hst,.inl rfl⟩
  |true=>
   obtain⟨r,k,k2⟩:=a2D z hl n (i+1) pP;refine⟨r,by rw[I4 hst,k],k2.imp id fun⟨a,b⟩=>⟨a,fun x j=>?_⟩⟩;rw[aGb h] at j;rcases aFN.1 j with rfl|j
   .exact e3 rfl
   exact b x j
def aBJ {c:C4}(j:av c): ∃b,NS c=some b/\(b=true->J5 c):=by
 obtain⟨r,e,e1,e2,e3⟩:=Id j.com.1 j.com.2 j.fld.1 j.fld.2;unfold NS;rw[e,aFz xO];by_cases hb:(((decide ((100:Int)<(c.1.length:Int)))||(decide ((6000:Int)<(val (some r)))))||(decide ((12:Int)<(c.2.2.2.1.length:Int))))=true
 .rw[aFz hb];exact⟨false,rfl,fun h=>by cases h⟩
 rw[aFA hb];simp only[aGU,aFI] at hb;have hr: ¬(6000:Int)<r:=fun h=>hb (.inl (.inr h));obtain⟨p,q⟩:=e3 pP;obtain⟨r',k,k2⟩:=a2D j pP c.2.2.2.1.length 0 pP;have k':s8 (NR c) (0:Int)=some r':=k;rw[k'];rcases k2 with rfl|⟨rfl,k3⟩
 .exact⟨false,rfl,fun h=>by cases h⟩
 exact⟨true,rfl,fun _=>⟨pP,p,q,pP,by rw[aGJ] at k3;exact k3⟩⟩
def LC {l:pL}(h:l.length<=6000):s9 l:=by unfold s9;omega
def If {l:pM}(h:FU l):s9 l/\∀y∈l,s9 y:=⟨by have:=h.1;unfold s9;omega,fun y j=>LC (h.2 y j)⟩
def a2E {l:List sX}(h:LB l):s9 l/\∀y∈l,UI y:=⟨by have:=h.1;unfold s9;omega,fun y j=>⟨LC (h.2 y j).1,LC (h.2 y j).2⟩⟩
def OC.fitP {x:tT}(h:OC x):au x:=⟨LC h.id,LC h.src,LC h.tgt,If h.com,If h.flg,a2E h.fld⟩
def J5.fitP {c:C4}(h:J5 c):UJ c:=⟨LC (by have:=h.tag;omega),If h.com,a2E h.fld,by have:=h.len;omega,fun x j=>(h.ent x j).fitP⟩
def a2F {σ ρ α:Type}{f:σ->Option (σ⊕ρ)}(st:Int->List α->σ) (out:List α->ρ) {n M B:Nat}(g:Nat->List α) (h: ∀i,i<n->(g i).length<=B)
  (hf: ∀(i:Nat) s,i<n->s.length+B<=M->f (st i s)=some (.inl (st ((i:Int)+1) (s++g i)))) (j: ∀s,f (st n s)=some (.inr (out s))):
  ∀(k i:Nat) (s:List α),i+k=n->s.length+k*B<=M->s8 f (st i s)=some (out (s++(List.range' i k).flatMap g))
 |0,i,s,hi,_=>by
  have:i=n:=by omega
  subst this;rw[z7 (j s)];simp
 |k+1,i,s,hi,z=>by
  rw[aGO] at z;have D:=h i pP;rw[I4 (hf i s pP pP),show ((i:Int)+1)=((i+1:Nat):Int) by omega,a2F st out g h hf j k (i+1) (s++g i) pP (by rw[aFD];omega),aHn,aGX,aFO]
def a2G {α:Type}{g:Nat->List α}{B:Nat}: ∀(k i:Nat),(∀j,i<=j->j<i+k->(g j).length<=B)->((List.range' i k).flatMap g).length<=k*B
 |0,i,_=>by simp
 |k+1,i,h=>by
  rw[aHn,aGX,aFD,aGO];have D:=a2G k (i+1) fun j D z=>h j pP pP;have z:=h i pP pP;omega
def aw {σ ρ α:Type}{f:σ->Option (σ⊕ρ)}(st:Int->List α->σ) (out:List α->ρ) {n M B:Nat}(g:Nat->List α) (h: ∀i,i<n->(g i).length<=B) (s:List α) (z:s.length+n*B<=M)
  (hf: ∀(i:Nat) s,i<n->s.length+B<=M->f (st i s)=some (.inl (st ((i:Int)+1) (s++g i)))) (j: ∀s,f (st n s)=some (.inr (out s))):
  s8 f (st 0 s)=some (out (s++(List.range' 0 n).flatMap g)):=a2F st out g h hf j n 0 s pP z
def Ig {α β:Type}{l:List α}{d:α}(h:α->List β):(List.range' 0 l.length).flatMap (fun i=>h (l.getD i d))=l.flatMap h:=by
 have e:(List.range' 0 l.length).map (fun i=>l.getD i d)=l:=by
  apply ext_getElem
  .simp
  intro i z j;simp [aFV,j]
 conv=>rhs;rw[<-e]
 rw[flatMap_map]
def LD {α β:Type}{l:List α}{h:α->List β}{B:Nat}(hb: ∀x∈l,(h x).length<=B):(l.flatMap h).length<=l.length*B:=by
 induction l with
 |nil=>simp
 |cons x l ih=>
  rw[aGX,aFD,aFF,aGO];have D:=hb x aFT;have z:=ih fun y j=>hb y (aFK _ j);omega
def yU (n b:Nat) (first:Bool):pL:=(KR (n:Int) (b:Int) first).getD []
def aBK:((List.range 256).all fun b=>[true,false].all fun f=>decide (KR 2 (b:Int) f=some (yU 2 b f))&&(decide (zt 2 (b:Int) f=some (yU 2 b f))&&decide ((yU 2 b f).length<=6)))=true:=by kernel_rfl
def a2H {n b:Nat}(j:n=2) (hb:b<256) (f:Bool):KR (n:Int) (b:Int) f=some (yU n b f)/\zt (n:Int) (b:Int) f=some (yU n b f)/\(yU n b f).length<=6:=by
 have hf:f∈[true,false]:=by cases f<;>simp
 subst j;have h:=aGt.1 (aGt.1 aBK b (by simpa using hb)) f hf;simpa using h
def OD (n:Nat) (s:pL) (i:Nat):pL:=yU n (s.getD i 0).toNat (decide (i=0))
def xC (n:Nat) (s:pL):pL:=(List.range' 0 s.length).flatMap (OD n s)
def a2I {n:Nat}(h:n=2) (s:pL) (i:Nat):(OD n s i).length<=6:=(a2H h (UInt8.toNat_lt _) _).2.2
def Ih {n:Nat}(h:n=2) (s:pL):(xC n s).length<=6*s.length:=by
 have:=a2G (g:=OD n s) (B:=6) s.length 0 fun j _ _=>a2I h s j;unfold xC;omega
def aBL {s:pL}{i:Nat}:sE s (i:Int)=((s.getD i 0).toNat:Int):=by unfold sE;rw[aGz]
def aBM {i:Nat}:decide ((i:Int)=0)=decide (i=0):=aG4.2 pP
def aBN {l:pZ}{g:Nat->pL}:l.flatMap (fun i=>uQ (g i))=uQ (l.flatMap g):=by
 induction l with
 |nil=>rfl
 |cons x l ih=>rw[aGX,aGX,Gz,ih]
def a2J (l:pL):(uQ l).length=l.length:=by simp [uQ]
def aBO {n:Nat}(z:n=2) {s:pL}(D:s9 s):KU (n:Int) s=some (xC n s):=by
 unfold s9 at D;have j: ¬decide ((n:Int)=4)=true:=by simp;omega
 have h:=aw (f:=TA (n:Int) s) (fun i b=>(i,b)) (fun b=>b) (n:=s.length) (M:=10000000000000) (B:=6) (fun i=>uQ (OD n s i)) (fun i _=>by rw[a2J];exact a2I z s i) [] pS (fun i b hi E=>by
  obtain⟨e1,_,e3⟩:=a2H z (UInt8.toNat_lt (s.getD i 0)) (decide (i=0));unfold TA;dsimp only;rw[aFz (uX hi),aFA j,aFz (tE hi),aBL,aBM,e1,aFC];unfold EA;rw[aFz (by dsimp only;omega),aFC,aFz (vK pP)];rfl) (fun b=>by
  unfold TA;dsimp only;rw[aFA (wM _)])
 unfold KU;rw[aFA pS,h,aBN];unfold uO;rw[aFC,nil_append,Ha];rfl
def LE (h:pL) (l:pM) (t:pL):pL:=h++(l.flatten++t)
def a2K {f:(Int×pL)->pV->Option (pV⊕pL)}(hf: ∀it b,b.length+it.2.length<=140737488355328->f it b=some (.inl (b++uQ it.2))): ∀(l:List (Int×pL)) (b:pV),
  b.length+((l.map (·.2)).flatten).length<=140737488355328->AX f l b=some (.inl (b++uQ (l.map (·.2)).flatten))
 |[],b,_=>by simp [AX,uQ]
 |it::l,b,h=>by
  simp only[aGB,aGq,aFD] at h;unfold AX;rw[hf it b pP,aFC];show AX f l _=_;rw[a2K hf l _ (by rw[aFD,a2J];omega)];simp only[aGB,aGq,Gz,aFO]
def a2L (d:I7):((D1 d).map (·.2)).flatten=LE d.1 d.2.1 d.2.2.1:=by
 unfold D1 LE;have e:(List.range d.2.1.length).map (fun j=>d.2.1.getD j [])=d.2.1:=by
  apply ext_getElem
  .simp
  intro i z h;simp [aFV,h]
 have e2:(((List.range d.2.1.length).map fun j:Nat=>((j:Int)+1,d.2.1.getD j [])).map (·.2))=d.2.1:=by
  rw[map_map];exact e
 simp only[aGB,map_append,map_nil,aGq,flatten_append,flatten_nil,append_nil,e2,aFO]
def a2M (d:I7) (hl:d.2.1.length<=900000) (hb:(LE d.1 d.2.1 d.2.2.1).length<=140737488355328):NF d=some (LE d.1 d.2.1 d.2.2.1):=by
 have h:=a2K (f:=Z0) (fun it b h=>by
  unfold Z0 EA;rw[aFz h,aFC]) (D1 d) [] (by rw[a2L];simpa using hb)
 unfold NF;rw[aFz pP,h,a2L];unfold tN;dsimp only;rw[aFC];simp only[nil_append,Ha]
def a2N {l:pM}(h:FU l) {i:Nat}(hi:i<l.length):(l.getD i []).length<=6000:=h.2 _ (OB hi)
def a2O {l:List sX}(h:LB l) {i:Nat}(hi:i<l.length):(l.getD i fD).1.length<=6000/\(l.getD i fD).2.1.length<=6000:=h.2 _ (OB hi)
def a2P {n:Int}(h0:0<=n) (h:n<=4):(qR .str wO n).length<=10:=by
 have:n=0\/n=1\/n=2\/n=3\/n=4:=by omega
 rcases this with rfl|rfl|rfl|rfl|rfl<;>decide
def aBP {α β:Type}{f:α->β}{l:List α}:l.flatMap (fun x=>[f x])=l.map f:=by
 induction l with
 |nil=>rfl
 |cons x l ih=>rw[aGX,ih];rfl
def a2Q {x:tT}(h:zF x=true):0<=x.2.2.2.2.2.1/\x.2.2.2.2.2.1<=4:=by
 unfold zF at h;simp only[aFL,aFI] at h;exact h.1.2
def BY (n:Nat):Bool->pL->pL
 |_,[]=>[]
 |f,b::t=>yU n b.toNat f++BY n false t
def a2R (n:Nat): ∀(s:pL) (p:pL),p≠[]->(List.range' p.length s.length).flatMap (OD n (p++s))=BY n false s
 |[],p,_=>by simp [BY]
 |b::t,p,hp=>by
  have hl:0<p.length:=aGH.2 hp;rw[aFF,aHn,aGX];have j:OD n (p++b::t) p.length=yU n b.toNat false:=by
   unfold OD;rw[show decide (p.length=0)=false by simp;exact hp];congr 2;rw[aFV,aFJ (aFW _),aG8];rfl
  have h:=a2R n t (p++[b]) pR;rw[aFD,aGC,aFO,aHs] at h;rw[j,h];rfl
def Ii (n:Nat) (s:pL):xC n s=BY n true s:=by
 cases s with
 |nil=>rfl
 |cons b t=>
  unfold xC;rw[aFF,aHn,aGX];have h:=a2R n t [b] pR;rw[aGC,aHs] at h;rw[aF6,h];rfl
def aBQ {e:pL}(t:pL) (h:(zN e).2=e.length) (h0:e≠[]):zN (e++t)=zN e:=by
 match e,h,h0 with
 |[a],h,_=>simp [zN] at h
 |a::c::u,h,_=>
  show zN (a::c::(u++t))=zN (a::c::u);simp only[zN] at h|-;split
  .rfl
  rename_i F;rw[aFA F] at h;split
  .rfl
  rename_i E;rw[aFA E] at h;split
  .rfl
  rename_i h3;rw[aFA h3] at h;split
  .rfl
  rename_i h4;rw[aFA h4] at h;by_cases z:c=120/\2<=u.length
  .rw[aFz z,aFz ⟨z.1,by rw[aFD];omega⟩,aHm z.2]
  rw[aFA z] at h|-;by_cases j:c=117/\4<=u.length
  .have: ¬(c=120/\2<=(u++t).length):=fun D=>by
    have:=j.1.symm.trans D.1;exact absurd this pQ
   rw[aFA this,aFz j,aFz ⟨j.1,by rw[aFD];omega⟩,aHm j.2]
  rw[aFA j] at h;simp at h
def aBR {n:Int}{e:pL}(t:pL) (h:(vL n e).2=e.length) (h0:e≠[]):vL n (e++t)=vL n e:=by
 match e,h,h0 with
 |b::u,h,_=>
  show vL n (b::(u++t))=_;by_cases hb:b=92
  .rw[TW hb] at h|-;rw[TW hb];exact aBQ (e:=b::u) t h pR
  by_cases j:J4 n b=true
  .rw[TX hb j,TX hb j]
  rw[TY hb j,TY hb j]
def aBS:((List.range 256).all fun b=>[true,false].all fun f=>decide (vL 2 (yU 2 b f)=([b.toUInt8],(yU 2 b f).length))&&(decide (yU 2 b f≠[])&&decide (uC 34 (yU 2 b f++[34])=some (yU 2 b f).length)))=true:=by kernel_rfl
def QO (_n:Nat):UInt8:=34
def a2S {n:Nat}(z:n=2) (b:UInt8) (f:Bool):vL (n:Int) (yU n b.toNat f)=([b],(yU n b.toNat f).length)/\yU n b.toNat f≠[]/\uC (QO n) (yU n b.toNat f++[QO n])=some (yU n b.toNat f).length:=by
 have hf:f∈[true,false]:=by cases f<;>simp
 have hb:b.toNat<256:=UInt8.toNat_lt b;have j:b.toNat.toUInt8=b:=by simp
 subst z;have h:=aGt.1 (aGt.1 aBS b.toNat (by simpa using hb)) f hf;simp only[aFL,aFI,j] at h;exact⟨h.1,h.2.1,h.2.2⟩
def a2T {n:Nat}(D:n=2): ∀(s:pL) (f:Bool) (k:Nat),(BY n f s).length<=k->BV (n:Int) k (BY n f s)= .inl s
 |[],f,k,_=>by
  cases k<;>rfl
 |b::t,f,k,j=>by
  obtain⟨z,h,_⟩:=a2S D b f;unfold BY at j|-;obtain⟨e,E⟩: ∃e,yU n b.toNat f=e:=⟨_,rfl⟩;rw[E] at z h j|-;have hp:=aBR (BY n false t) (by rw[z]) h;rw[z] at hp;rw[aFD] at j;have hl:0<e.length:=aGH.2 h;obtain⟨k',rfl⟩: ∃k',k=k'+1:=⟨k-1,pP⟩;obtain⟨a,u,rfl⟩: ∃a u,e=a::u:=by
   cases e with
   |nil=>exact absurd rfl h
   |cons a u=>exact⟨a,u,rfl⟩
  rw[cons_append] at hp|-;unfold BV;rw[hp,aFA pR];dsimp only;rw[<-cons_append,drop_left,a2T D t false k' pP];rfl
def aBT {n:Nat}(h:n=2) (s:pL):xA (n:Int) (xC n s)=(s,0,0):=by
 unfold xA;rw[Ii,a2T h s true _ (aFW _)]
def Ij {d:UInt8}: ∀(m:Nat) (e t:pL),e.length<=m->uC d (e++[d])=some e.length->uC d (e++t)=(uC d t).map (· +e.length)
 |_,[],t,_,_=>by simp
 |0,_::_,_,h,_=>by simp at h
 |m+1,b::u,t,hm,h=>by
  rw[cons_append] at h|-;rw[aFF] at hm;by_cases hb:b=d
  .rw[ZW hb] at h;simp at h
  by_cases j:b=92
  .rw[ZX hb j] at h;rw[ZX hb j];cases u with
   |nil=>simp [ZV] at h
   |cons c v=>
    simp only[cons_append,aHz,aGJ] at h|-;rw[aFF] at hm;have z:uC d (v++[d])=some v.length:=by
     cases hq:uC d (v++[d]) with
     |none=>rw[hq] at h;cases h
     |some k=>rw[hq] at h;simp at h;rw[h]
    rw[Ij m v t pP z,Option.map_map];congr 1
  rw[ZY hb j] at h;rw[ZY hb j];have z:uC d (u++[d])=some u.length:=by
   cases hq:uC d (u++[d]) with
   |none=>rw[hq] at h;cases h
   |some k=>rw[hq] at h;simp at h;rw[h]
  rw[Ij m u t pP z,Option.map_map];congr 1
def a2U {n:Nat}(h:n=2): ∀(s:pL) (f:Bool) (t:pL),uC (QO n) (BY n f s++t)=(uC (QO n) t).map (· +(BY n f s).length)
 |[],f,t=>by simp [BY]
 |b::u,f,t=>by
  obtain⟨_,_,h3⟩:=a2S h b f;unfold BY;rw[aFO,Ij _ _ _ (aFW _) h3,a2U h u false t,Option.map_map];congr 1;funext k;simp only[Function.comp,aFD];omega
def aBU {n:Nat}(h:n=2) (s z:pL):uC (QO n) (xC n s++QO n::z)=some (xC n s).length:=by
 rw[Ii,a2U h,ZW rfl];simp
def aBV {l:List sX}{n v:pL}(h: ∀y∈l,y.1<n):zD l n v=l++[(n,(v,()))]:=by
 have E:yQ l n=none:=by
  unfold yQ;rw[aGr];intro y j;have:=h y j;simp only[aGd];intro D;rw[D] at this;exact List.lt_irrefl _ this
 have z:uV l n=l.length:=by
  unfold uV;rw[aGr.2 fun y j=>by rw[GY];simp [h y j]];rfl
 unfold zD;rw[E,z,take_length,aGs,append_nil];rfl
def a2V {n:Int}(h0:0<=n) (h4:n<=4):A5 (qR .str wO n)=n:=by
 have:n=0\/n=1\/n=2\/n=3\/n=4:=by omega
 rcases this with rfl|rfl|rfl|rfl|rfl<;>decide
def a2W {x:pL}(h:wN x=true):sU x=true:=by
 unfold wN at h;simp only[aFL,aF2,aGg,aGQ,aFI] at h;obtain⟨h0,D,z⟩:=h;unfold sU;rw[aFL,aFI];refine⟨pP,a1s fun c j=>?_⟩;have:=h0 c j;unfold O2 at this;simp only[aHt,aHp,aFL,aGV,aFI,aGd] at this;omega
def Ik {l:pM}(h:l.length<=20/\∀y∈l,y.length<=4000):FU l:=⟨pP,fun y j=>by have:=h.2 y j;omega⟩
def a2X {l:List sX}(h:l.length<=20/\∀y∈l,y.1.length<=4000/\y.2.1.length<=4000):LB l:=⟨pP,fun y j=>by have:=h.2 y j;omega⟩
def Hk.few {x:tT}(h:Hk x):OC x:=⟨by have:=h.id;omega,by have:=h.src;omega,by have:=h.tgt;omega,Ik h.com,Ik h.flg,a2X h.fld⟩
def aBW {c:C4}(h:wP c=true):J5 c:=by
 obtain⟨z,F,h3,h4,E,_⟩:=U1 h;obtain⟨c1,c2⟩:=GZ F;obtain⟨g1,g2,g3⟩:=H0 h3;refine⟨?_,Ik ⟨c1,fun y j=>BW (c2 y j)⟩,a2X ⟨g1,fun y j=>⟨BW (g2 y j).2.1,BW (g2 y j).2.2⟩⟩,h4,fun x D=>(a1v (E x D)).few⟩;unfold wN at z;simp only[aFL,aFI] at z;omega
def az:Nat->pM->pZ
 |_,[]=>[]
 |a,x::ps=>(a+x.length)::az (a+x.length) ps
theorem zG {l:pL}(h:l.length≤4000000000):(l.length:Int)≤9223372036854775807:=by omega
def qt (s:pL):pL:=(([34]:pL)++xC 2 s)++([34]:pL)
theorem DR {s:pL}(h:s.length≤6000):(qt s).length≤36002:=by
  have:=Ih (n:=2) rfl s;simp only[qt,aFD,aFF,aFS];omega
theorem OE {s:pL}(h:s.length≤6000):BS s=some (qt s):=by
  have j:=Ih (n:=2) rfl s;unfold BS;rw[show KU (2:Int) s=some (xC 2 s) from aBO (n:=2) rfl (LC h),aFC]
  repeat rw[aFz (zG (by simp only[aFD,aFF,aFS];omega))]
  rfl
abbrev bc:pL:=([32,32,99,111,109,109,101,110,116,32]:pL)
abbrev a2Y:pL:=([32,32,102,105,101,108,100,32]:pL)
abbrev A8:pL:=([32,32,115,111,117,114,99,101,32]:pL)
abbrev AO:pL:=([32,32,116,97,114,103,101,116,32]:pL)
abbrev LF:pL:=([32,32,115,116,97,116,101,32]:pL)
abbrev QP:pL:=([32,32,102,108,97,103,115,32]:pL)
abbrev a2Z:pL:=([10,101,110,116,114,121,32]:pL)
abbrev H7:pL:=([101,110,100,10]:pL)
abbrev LG:pL:=([99,97,116,97,108,111,103,32]:pL)
def xD (s:pL):pL:=(bc++qt s)++[10]
def H8 (l:pM):pL:=l.flatMap xD
theorem a23 {s:pL}(h:s.length≤6000):(xD s).length≤36013:=by
  have:=DR h;simp only[xD,aFD,aFF,aFS];omega
theorem bd {l:pM}(h:FU l):(H8 l).length≤216078000:=by
  have:=LD (l:=l) (h:=xD) (B:=36013) fun x j=>a23 (h.2 x j);have z:=h.1;unfold H8
  calc _≤l.length*36013:=this
    _≤6000*36013:=aGM _ z
theorem a24 {l:pM}(h:FU l):KW l=some (H8 l):=by
  have hl:=h.1
  have k:=aw (f:=TE l) (fun i s=>(s,i)) (fun s=>s) (n:=l.length) (M:=1000000000) (B:=36013) (fun i=>xD (l.getD i [])) (fun i hi=>a23 (a2N h hi)) [] pS (fun i s hi z=>by
    have j:=a2N h hi;have D:=DR j;unfold TE;dsimp only;rw[aFz (uX hi),aFz (tE hi),Hz,OE j,aFC]
    repeat rw[aFz (zG (by simp only[aFD,aFF,aFS];omega))]
    rw[aFz (vK pP)];rfl) (fun b=>by
    unfold TE;dsimp only;rw[aFA (wM _)])
  unfold KW;rw[k,Ig (l:=l) (d:=[]) xD];rfl
def A9 (f:sX):pL:=(((a2Y++qt f.1)++[32])++qt f.2.1)++[10]
def J6 (l:List sX):pL:=l.flatMap A9
theorem a26 {f:sX}(h:f.1.length≤6000∧f.2.1.length≤6000):(A9 f).length≤72014:=by
  have z:=DR h.1;have j:=DR h.2;simp only[A9,aFD,aFF,aFS];omega
theorem bg {l:List sX}(h:LB l):(J6 l).length≤432084000:=by
  have:=LD (l:=l) (h:=A9) (B:=72014) fun x j=>a26 (h.2 x j);have z:=h.1;unfold J6
  calc _≤l.length*72014:=this
    _≤6000*72014:=aGM _ z
theorem Il {l:List sX}(h:LB l):IU l=some (J6 l):=by
  have hl:=h.1
  have k:=aw (f:=TF l) (fun i s=>(s,i)) (fun s=>s) (n:=l.length) (M:=1000000000) (B:=72014) (fun i=>A9 (l.getD i fD)) (fun i hi=>a26 (a2O h hi)) [] pS (fun i s hi z=>by
    have j:=a2O h hi;have D:=DR j.1;have h3:=DR j.2;unfold TF;dsimp only;rw[aFz (uX hi),aFz (tE hi),Ia,OE j.1,aFC]
    repeat rw[aFz (zG (by simp only[aFD,aFF,aFS];omega))]
    rw[OE j.2,aFC]
    repeat rw[aFz (zG (by simp only[aFD,aFF,aFS];omega))]
    rw[aFz (vK pP)];rfl) (fun b=>by
    unfold TF;dsimp only;rw[aFA (wM _)])
  unfold IU;rw[k,Ig (l:=l) (d:=fD) A9];rfl
theorem Im (x:pL) (r:pM):xZ (x::r) [32]=x++r.flatMap (fun y=>[32]++y):=by
  unfold xZ;rw[join_cons];unfold joinTail;rw[flatMap_def]
theorem a27 {l:pM}(h:FU l):(xZ l [32]).length≤36012000:=by
  cases l with
  |nil=>simp [xZ,join_nil]
  | cons x r=>
    rw[Im,aFD];have z:=h.1;have D:=h.2 x aFT
    have h3:=LD (l:=r) (h:=fun y=>[32]++y) (B:=6001) fun y j=>by
      have:=h.2 y (aFK _ j);simp only[aFD,aFF,aFS];omega
    simp only[aFF] at z;have h4:r.length*6001≤6000*6001:=aGM _ pP;omega
def J7 (l:pM):pL:=if l=[] then[] else(QP++xZ l [32])++[10]
theorem aBX {l:pM}(h:FU l):(J7 l).length≤36012009:=by
  unfold J7;split
  .simp
  have:=a27 h
  simp only[aFD,aFF,aFS];omega
def H9 (p s:pL):pL:=if s=[] then[] else(p++qt s)++[10]
def QQ (n:Int):pL:=if n=0 then[] else(LF++qR .str wO n)++[10]
theorem a28 {p s:pL}(hp:p.length≤10) (h:s.length≤6000):(H9 p s).length≤36013:=by
  have:=DR h;unfold H9;split
  .simp
  simp only[aFD,aFF,aFS];omega
theorem a29 {n:Int}(h0:0≤n) (h4:n≤4):(QQ n).length≤19:=by
  have:=a2P h0 h4;unfold QQ;split
  .simp
  simp only[aFD,aFF,aFS];omega
def iA (x:tT):pL:=((a2Z++qt x.1)++[10])++H8 x.2.2.2.1
def iB (x:tT):pL:=iA x++H9 A8 x.2.1
def iC (x:tT):pL:=iB x++H9 AO x.2.2.1
def iD (x:tT):pL:=iC x++QQ x.2.2.2.2.2.1
def iE (x:tT):pL:=iD x++J7 x.2.2.2.2.1
def AA (x:tT):pL:=(iE x++J6 x.2.2.2.2.2.2.1)++H7
section
variable {x:tT}(h:OC x) (h0:0≤x.2.2.2.2.2.1) (h4:x.2.2.2.2.2.1≤4)
include h
theorem a3a:(iA x).length≤216114010:=by
  have z:=DR h.id;have j:=bd h.com;simp only[iA,aFD,aFF,aFS];omega
theorem a3b:(iB x).length≤216150023:=by
  have z:=a3a h;have j:=a28 (p:=A8) pQ h.src;unfold iB;rw[aFD];omega
theorem a3c:(iC x).length≤216186036:=by
  have z:=a3b h;have j:=a28 (p:=AO) pQ h.tgt;unfold iC;rw[aFD];omega
include h0 h4
theorem a3d:(iD x).length≤216186055:=by
  have z:=a3c h;have j:=a29 h0 h4;unfold iD;rw[aFD];omega
theorem a3e:(iE x).length≤252198064:=by
  have z:=a3d h h0 h4;have j:=aBX h.flg;unfold iE;rw[aFD];omega
theorem aBY:(AA x).length≤684282068:=by
  have z:=a3e h h0 h4;have j:=bg h.fld;simp only[AA,aFD,aFF,aFS];omega
theorem aBZ:0≤x.2.2.2.2.2.1∧x.2.2.2.2.2.1<(wO.length:Int):=⟨h0,by simp only[wO,aFF,aFS];omega⟩
theorem aB0:NU x=some (AA x):=by
  have l1:=DR h.id;have l2:=bd h.com;have l3:=DR h.src;have l4:=DR h.tgt;have l5:=a2P h0 h4;have l6:=bg h.fld;have l7:=a3a h;have l8:=a3b h;have l9:=a3c h;have l10:=a3d h h0 h4;have l11:=a3e h h0 h4;have z:=h.flg.1;have hst:=aBZ h h0 h4;unfold NU;rw[OE h.id,aFC,aFz (zG (by simp only[aFD,aFF,aFS];omega)),aFz (zG (by simp only[aFD,aFF,aFS];omega)),a24 h.com,aFC,aFz (zG (l:=((a2Z++qt x.1)++[10])++H8 x.2.2.2.1) (show (iA x).length≤_ by omega))]
  have e1:(if (!decide (x.2.1=([]:pL)))=true then
       (BS x.2.1).bind fun O=>
       if ((A8++O).length:Int)≤9223372036854775807 then
        if (((A8++O)++([10]:pL)).length:Int)≤9223372036854775807 then
         if ((iA x++((A8++O)++([10]:pL))).length:Int)≤9223372036854775807 then
          some ((iA x++((A8++O)++([10]:pL))))
         else none
        else none
       else none
      else some (iA x))=some (iB x):=by
    unfold iB H9;by_cases e:x.2.1=[]
    .rw[aFA (by simp [e]),aFz e,append_nil]
    rw[aFz (by simp [e]),aFA e,OE h.src,aFC]
    repeat rw[aFz (zG (by simp only[aFD,aFF,aFS];omega))]
  refine(aFZ (fun o=>uO o _) e1).trans ?_;unfold uO;rw[aFC]
  have e2:(if (!decide (x.2.2.1=([]:pL)))=true then
       (BS x.2.2.1).bind fun Z=>
       if ((AO++Z).length:Int)≤9223372036854775807 then
        if (((AO++Z)++([10]:pL)).length:Int)≤9223372036854775807 then
         if ((iB x++((AO++Z)++([10]:pL))).length:Int)≤9223372036854775807 then
          some ((iB x++((AO++Z)++([10]:pL))))
         else none
        else none
       else none
      else some (iB x))=some (iC x):=by
    unfold iC H9;by_cases e:x.2.2.1=[]
    .rw[aFA (by simp [e]),aFz e,append_nil]
    rw[aFz (by simp [e]),aFA e,OE h.tgt,aFC]
    repeat rw[aFz (zG (by simp only[aFD,aFF,aFS];omega))]
  refine(aFZ (fun o=>Option.bind o _) e2).trans ?_;rw[aFC]
  have e3:(if (!decide (x.2.2.2.2.2.1=(0:Int)))=true then
       if 0≤x.2.2.2.2.2.1∧x.2.2.2.2.2.1<(wO.length:Int) then
        if ((LF++qR .str wO x.2.2.2.2.2.1).length:Int)≤9223372036854775807 then
         if (((LF++qR .str wO x.2.2.2.2.2.1)++([10]:pL)).length:Int)≤9223372036854775807 then
          if ((iC x++((LF++qR .str wO x.2.2.2.2.2.1)++([10]:pL))).length:Int)≤9223372036854775807 then
           some ((iC x++((LF++qR .str wO x.2.2.2.2.2.1)++([10]:pL))))
          else none
         else none
        else none
       else none
      else some (iC x))=some (iD x):=by
    unfold iD QQ;by_cases e:x.2.2.2.2.2.1=0
    .rw[aFA (by simp [e]),aFz e,append_nil]
    rw[aFz (by simp [e]),aFA e,aFz hst]
    repeat rw[aFz (zG (by simp only[aFD,aFF,aFS];omega))]
  refine(aFZ (fun o=>Option.bind o _) e3).trans ?_;rw[aFC];by_cases e:x.2.2.2.2.1=[]
  . rw[aFA (by simp [e]),Il h.fld,aFC,aFz (zG (by rw[aFD];omega)),aFz (zG (by simp only[aFD,aFF,aFS];omega))]
    unfold AA iE J7;rw[aFz e,append_nil]
  have D:=a27 h.flg
  have j:iD x++((QP++xZ x.2.2.2.2.1 [32])++[10])=iE x:=by unfold iE J7;rw[aFA e]
  rw[aFz (by have:=aGH.2 e;simp;omega),aFz ⟨pP,pP⟩,aFz (zG (by simp only[aFD,aFF,aFS];omega)),aFz (zG (by simp only[aFD,aFF,aFS];omega)),aFz (zG (by simp only[aFD,aFF,aFS];omega)),Il h.fld,aFC,j,
    aFz (zG (by rw[aFD];omega)),aFz (zG (by simp only[aFD,aFF,aFS];omega))]
  rfl
end
def EH (c:C4):pL:=(((((LG++qt c.1)++[10])++H8 c.2.1)++J6 c.2.2.1))++H7
def aB1 {c:C4}(h:J5 c):(EH c).length<=900000000:=by
 have z:=DR (s:=c.1) (by have:=h.tag;omega);have j:=bd h.com;have h3:=bg h.fld;simp only[EH,aFD,aFF,aFS];omega
def aB2 {c:C4}(j:J5 c):IW c=some (if wP c=true then(EH c,c.2.2.2.1.map AA,0) else([],[],1)):=by
 unfold IW;rw[aBF j.fitP,aFC];by_cases h:wP c=true
 .have hl:=j.len;have z:c.1.length<=6000:=by have:=j.tag;omega
  have F:=DR z;have E:=bd j.com;have h3:=bg j.fld;have k:=aw (f:=TM c) (fun i b=>(i,b)) (fun b=>b) (n:=c.2.2.2.1.length) (M:=1000000) (B:=1) (fun i=>[AA (c.2.2.2.1.getD i eD)]) (fun i hi=>by simp) [] pS (fun i b hi D=>by
   obtain⟨r0,r4⟩:=a2Q (Hg h hi);unfold TM;dsimp only;rw[aFz (uX hi),aFz (tE hi),Ic,aB0 (j.ent _ (OB hi)) r0 r4,aFC,aFz pS,aFz (vK pP)]) (fun b=>by
   unfold TM;dsimp only;rw[aFA (wM _)])
  rw[h,aFA (show¬(!true)=true from by decide),aFz rfl,OE z,aFC]
  repeat rw[aFz (zG (by simp only[aFD,aFF,aFS];omega))]
  rw[a24 j.com,aFC,aFz (zG (by simp only[aFD,aFF,aFS];omega)),Il j.fld,aFC]
  repeat rw[aFz (zG (by simp only[aFD,aFF,aFS];omega))]
  rw[k,Ig (l:=c.2.2.2.1) (d:=eD) (fun x=>[AA x])];unfold uO;rw[aFC,nil_append,aBP];rfl
 simp only[aGQ] at h;rw[h,aFz (show (!false)=true from rfl),aFA pQ]
def aB3 {c:C4}(E:J5 c) (h:wP c=true): ∀x∈([EH c]++c.2.2.2.1.map AA)++[[]],x.length<=2000000000:=by
 intro x z;simp only[aGl,aFR,mem_map] at z;rcases z with(rfl|⟨y,j,rfl⟩) |rfl
 .have:=aB1 E;omega
 .obtain⟨i,hi,rfl⟩:=aGW j;have D:=Hg h hi;rw[aFV,aFG hi] at D;obtain⟨r0,r4⟩:=a2Q D;have:=aBY (E.ent _ j) r0 r4;omega
 simp
def HC (c:C4):pL:=LE (EH c) (c.2.2.2.1.map AA) []
def aB4 {c:C4}(z:J5 c) (j:wP c=true):(HC c).length<=2004000000000:=by
 have h:=aB3 z j;have hl:=z.len;have e:HC c=(([EH c]++c.2.2.2.1.map AA)++[[]]).flatMap (fun x=>x):=by
  unfold HC LE;simp [flatMap_def];rfl
 have:=LD (l:=([EH c]++c.2.2.2.1.map AA)++[[]]) (h:=fun x=>x) (B:=2000000000) h;rw[e];simp only[aFD,aGC,aG0] at this;omega
def Io {c:C4}(j:J5 c):FF c=some (if wP c=true then(HC c,0) else([],1)):=by
 unfold FF;rw[aB2 j,aFC];by_cases h:wP c=true
 .have hl:=j.len;have:=aB4 j h;rw[aFz h,aFz h];dsimp only;rw[a2M (EH c,(c.2.2.2.1.map AA,([],()))) pS (by show (HC c).length<=_;omega),aFC];rfl
 rw[aFA h,aFA h];dsimp only;rw[a2M ([],([],([],()))) pR (by simp [LE]),aFC];rfl
def J8 (l:pL):Prop:= ∃u,l=u++[10]/\(10:UInt8)∉u
def BZ (ls:pM):Prop:= ∀l∈ls,J8 l
def UK:pM->Prop
 |[]=>True
 |l::r=>(J8 l\/(r=[]/\l≠[]/\(10:UInt8)∉l))/\UK r
def OF:Nat->pL->pM
 |0,_=>[]
 |n+1,s=>if s=[] then[] else s.take (tI s 0)::OF n (s.drop (tI s 0))
def LH (s:pL):pM:=OF s.length s
def aB5 {s:pL}{a:Nat}(h:a<=s.length):tI s a=a+tI (s.drop a) 0:=by
 unfold tI;rw[aGJ,aGa];split<;>omega
def Ip {s:pL}(h:s≠[]):0<tI s 0/\tI s 0<=s.length:=U7 (aGH.2 h)
def aB6 {u t:pL}(h:(10:UInt8)∉u):tI ((u++[10])++t) 0=(u++[10]).length:=by
 have hl:((u++[10])++t)[u.length]? =some 10:=by simp
 rw[aA1 (i:=u.length) (aGu _) pR (fun j E _ z=>?_) (by
  have:=hl;rw[aFG pR] at this;exact aFE this)]
 .simp
 intro D;have e:((u++[10])++t)[j]? =some u[j]:=by
  rw[aFO,aFU z,aFG z]
 rw[aFG E,D] at e;exact h (by rw[aFE e];exact aGp _)
def aB7 {u:pL}(h:(10:UInt8)∉u):tI u 0=u.length:=
 aA2 fun j D _ z=>h (z▸aGp D)
def a3f: ∀(n m:Nat) (s:pL),s.length<=n->n<=m->OF m s=OF n s
 |0,m,s,h,_=>by
  have:s=[]:=aGD.1 pP;subst this;cases m<;>simp [OF]
 |n+1,m,s,h,hm=>by
  obtain⟨m',rfl⟩: ∃m',m=m'+1:=⟨m-1,pP⟩;unfold OF;by_cases j:s=[]
  .rw[aFz j,aFz j]
  obtain⟨D,z⟩:=Ip j;rw[aFA j,aFA j,a3f n m' _ (by rw[aGa];omega) pP]
def Iq {s:pL}(h:s≠[]):LH s=s.take (tI s 0)::LH (s.drop (tI s 0)):=by
 obtain⟨D,z⟩:=Ip h;have hl:=aGH.2 h;unfold LH;obtain⟨k,j⟩: ∃k,s.length=k+1:=⟨s.length-1,pP⟩;rw[j,OF,aFA h,a3f (s.drop (tI s 0)).length k _ (aFW _) (by rw[aGa];omega)]
def aB8 {u t:pL}(h:(10:UInt8)∉u):LH ((u++[10])++t)=(u++[10])::LH t:=by
 rw[Iq pR,aB6 h,aHa,drop_left]
def a3g: ∀(ls:pM),UK ls->LH ls.flatten=ls
 |[],_=>rfl
 |l::r,⟨z,j⟩=>by
  rw[aGq];rcases z with⟨u,rfl,h⟩ |⟨rfl,hl,h⟩
  .rw[aB8 h,a3g r j]
  rw[flatten_nil,append_nil,Iq hl,aB7 h,take_length,aGs];rfl
def Ir: ∀{A B:pM},BZ A->UK B->UK (A++B)
 |[],_,_,h=>h
 |l::A,B,j,h=>⟨.inl (j l aFT),Ir (fun x z=>j x (aFK _ z)) h⟩
def LI {A B:pM}(z:BZ A) (j:BZ B):BZ (A++B):=fun x h=>(aGl.1 h).elim (z x) (j x)
def a3h {u:pL}:uB (u++[10])=u:=by
 unfold uB;rw[aFz pR];simp
def v8:pM->St->Nat->(Nat×Int)⊕St
 |[],st,_=> .inr st
 |l::ls,st,a=>if (tU st (uB l) ((a+l.length:Nat):Int)).1=0 then v8 ls (tU st (uB l) ((a+l.length:Nat):Int)).2 (a+l.length) else .inl (a,(tU st (uB l) ((a+l.length:Nat):Int)).1)
def bm (l:pL) (ls:pM) (st:St) (a:Nat):v8 (l::ls) st a=if (tU st (uB l) ((a+l.length:Nat):Int)).1=0 then v8 ls (tU st (uB l) ((a+l.length:Nat):Int)).2 (a+l.length) else .inl (a,(tU st (uB l) ((a+l.length:Nat):Int)).1):=rfl
def a3i {s:pL}: ∀(n a:Nat) (st:St),a<=s.length->s.length<n+a->BX s n st a=v8 (LH (s.drop a)) st a
 |0,a,_,h,F=>by omega
 |n+1,a,st,h,F=>by
  unfold BX;by_cases E:a<s.length
  .have j:s.drop a≠[]:=fun e=>by
    have:=aFZ List.length e;simp only[aGa,aFS] at this;omega
   have e:=aB5 h;obtain⟨I,G⟩:=Ip j;rw[aGa] at G;have z:((s.drop a).take (tI (s.drop a) 0)).length=tI (s.drop a) 0:=by rw[aGh,aGa];omega
   have D:FS s a=(s.drop a).take (tI (s.drop a) 0):=by
    unfold FS;rw[show tI s a-a=tI (s.drop a) 0 by omega]
   rw[aFz E,Iq j,v8,D,z,<-e,a3i n _ _ pP pP];rw[aHI,show a+tI (s.drop a) 0=tI s a by omega]
  have:a=s.length:=by omega
  subst this;rw[aFA E,aGs];rfl
def aB9 (s:pL):DQ s=match v8 (LH s) tQ 0 with
 | .inl q=> .inl q
 | .inr st=>if st.op=true\/st.ends=[] then .inl (s.length,3) else .inr st:=by
 unfold DQ;rw[a3i _ 0 _ (aGu _) pP,aGJ]
 first|done|rfl
def a3j: ∀(A B:pM) (st:St) (a:Nat) {st':St},v8 A st a= .inr st'->v8 (A++B) st a=v8 B st' (a+A.flatten.length)
 |[],B,st,a,st',h=>by
  cases h;simp
 |l::A,B,st,a,st',h=>by
  rw[cons_append,bm];rw[bm] at h;by_cases h0:(tU st (uB l) ((a+l.length:Nat):Int)).1=0
  .rw[aFz h0] at h|-;rw[a3j A B _ _ h,aGq,aFD,aGj]
  rw[aFA h0] at h;cases h
def a3k {l:pL}{st st':St}{a:Nat}(h:tU st (uB l) ((a+l.length:Nat):Int)=(0,st')):v8 [l] st a= .inr st':=by
 rw[bm,h,aFz rfl];rfl
def Ws (s:pL) (l:List Wd):Prop:= ∀n,s.length<n->y8 n s=some l
def aCa {s:pL}{l:List Wd}(h:Ws s l):L7 s=some l:=h _ (Nat.lt_succ_self _)
def UL:Ws [] []:=fun n h=>by
 obtain⟨m,rfl⟩: ∃m,n=m+1:=⟨n-1,by simp at h;omega⟩;exact aAF m
def a3l {b:UInt8}(h:u6 b=true):tO b=false:=by
 have j:=(Hl b).1 h;cases z:tO b with
 |false=>rfl
 |true=>
      rcases(a1x b).1 z with e|e
      .exact absurd e j.1
      exact absurd e j.2.1
def a3m {b:UInt8}(h:tO b=true):u6 b=false:=by
 cases hp:u6 b with
 |false=>rfl
 |true=>rw[a3l hp] at h;cases h
def aCb {z:pL}(h:FO z=true):z.dropWhile u6=z/\z.head?≠some 34:=by
 cases z with
 |nil=>exact⟨rfl,by simp⟩
 |cons b u=>
  have hb:tO b=true:=h;refine⟨dropWhile_cons_of_neg (by rw[a3m hb];simp),fun e=>?_⟩;have:b=34:=by simpa using e
  rw[this] at hb;exact absurd hb pQ
def OG {g w z:pL}{l:List Wd}(I: ∀b∈g,tO b=true) (hw:w≠[]) (hp: ∀b∈w,u6 b=true) (F:FO z=true) (h:Ws z l):Ws (g++(w++z)) ((false,w,())::l):=by
 intro n G;obtain⟨m,rfl⟩: ∃m,n=m+1:=⟨n-1,pP⟩;obtain⟨D,j⟩:=aCb F;obtain⟨b,u,rfl⟩: ∃b u,w=b::u:=by
  cases w with
  |nil=>exact absurd rfl hw
  |cons b u=>exact⟨b,u,rfl⟩
 have hb:=hp b aFT;have e:(g++(b::u++z)).dropWhile tO=b::u++z:=by
  rw[dropWhile_append_of_pos I,cons_append,dropWhile_cons_of_neg (by rw[a3l hb];simp)]
 have e1:(b::u++z).dropWhile u6=z:=by rw[dropWhile_append_of_pos hp,D]
 have e2:(b::u++z).takeWhile u6=b::u:=by
  rw[takeWhile_append_of_pos hp];have:z.takeWhile u6=[]:=by
   cases z with
   |nil=>rfl
   |cons c v=>exact takeWhile_cons_of_neg (by rw[a3m F];simp)
  rw[this,append_nil]
 have E:B4 (b::u++z)=some ((false,b::u,()),z):=by
  unfold B4;rw[aFA (by
   intro h;have:b=34:=by simpa using h
   exact((Hl b).1 hb).2.2 this),e1,aFA j,e2]
 unfold y8;rw[e,aFA pR,E];show (y8 m z).map _=_;rw[h m (by simp only[aFD,aFF] at G;omega)];rfl
def aCc (x z:pL):qt x++z=34::(xC 2 x++34::z):=by simp [qt]
def Is {g x z:pL}{l:List Wd}(G: ∀b∈g,tO b=true) (F:sU x=true) (E:FO z=true) (h:Ws z l):Ws (g++(qt x++z)) ((true,x,())::l):=by
 intro n D;obtain⟨m,rfl⟩: ∃m,n=m+1:=⟨n-1,pP⟩;rw[aCc] at D|-;have e:(g++(34::(xC 2 x++34::z))).dropWhile tO=34::(xC 2 x++34::z):=by
  rw[dropWhile_append_of_pos G,dropWhile_cons_of_neg pQ]
 have K:uC 34 (xC 2 x++34::z)=some (xC 2 x).length:=aBU (n:=2) rfl x z;have I:xA 2 (xC 2 x)=(x,0,0):=aBT (n:=2) rfl x;have M:(34::(xC 2 x++34::z)).drop ((xC 2 x).length+2)=z:=by
  rw[show (34::(xC 2 x++34::z))=(34::xC 2 x++[34])++z by simp,drop_append_of_le_length pR];rw[drop_of_length_le pR];rfl
 have j:B4 (34::(xC 2 x++34::z))=some ((true,x,()),z):=by
  unfold B4;rw[aFz (show (34::(xC 2 x++34::z)).head? =some 34 from rfl)];rw[show (34::(xC 2 x++34::z)).drop 1=xC 2 x++34::z from rfl,K];dsimp only;rw[aHa,I,M,aFz ⟨rfl,F,E⟩]
 unfold y8;rw[e,aFA pR,j];show (y8 m z).map _=_;rw[h m (by simp only[aFD,aFF] at D;omega)];rfl
def J9 {g k u:pL}(j: ∀b∈g,tO b=true) (h:(match k with|[]=>false|b::_=> !tO b&&decide (b≠35))=true):DP (g++(k++u))=false:=by
 obtain⟨b,v,rfl⟩: ∃b v,k=b::v:=by
  cases k with
  |nil=>cases h
  |cons b v=>exact⟨b,v,rfl⟩
 simp only[aFL,aF2,aFI] at h;obtain⟨hb,z⟩:=h;rw[cons_append];unfold DP;rw[dropWhile_append_of_pos j,dropWhile_cons_of_neg (by rw[hb];simp)];simp [z]
def JA {s:St}{line:pL}{l:List Wd}(n:Int) (hf:DP line=false) (h:Ws line l):tU s line n=sD s n (AN l):=by
 unfold tU;rw[aCa h];exact aFA (by rw[hf];simp)
def aCd {s:St}{line:pL}(n:Int) (hf:DP line=true):tU s line n=(0,s):=by
 unfold tU;exact aFz hf
def EI: ∀b∈([32,32]:pL),tO b=true:=by decide
def UM: ∀b∈([32]:pL),tO b=true:=by decide
def QR: ∀b∈([]:pL),tO b=true:=by simp
def UN {g k x:pL}(z: ∀b∈g,tO b=true) (j:k≠[]) (hp: ∀b∈k,u6 b=true) (h:sU x=true):Ws (g++(k++([32]++(qt x++[])))) [(false,k,()),(true,x,())]:=
 OG z j hp rfl (Is UM h rfl UL)
def aCe {s:St}{x:pL}(n:Int) (h:sU x=true):tU s (bc++qt x) n=sD s n (.com x):=by
 have e:bc++qt x=[32,32]++(wF++([32]++(qt x++[]))):=by simp [wF]
 rw[e,JA n (J9 EI pQ) (UN EI pQ pQ h)];rfl
def aCf {s:St}{x:pL}(n:Int) (h:sU x=true):tU s (A8++qt x) n=sD s n (.src x):=by
 have e:A8++qt x=[32,32]++(uK++([32]++(qt x++[]))):=by simp [uK]
 rw[e,JA n (J9 EI pQ) (UN EI pQ pQ h)];rfl
def aCg {s:St}{x:pL}(n:Int) (h:sU x=true):tU s (AO++qt x) n=sD s n (.tgt x):=by
 have e:AO++qt x=[32,32]++(uL++([32]++(qt x++[]))):=by simp [uL]
 rw[e,JA n (J9 EI pQ) (UN EI pQ pQ h)];rfl
abbrev EJ:pL:=[101,110,116,114,121,32]
def aCh {s:St}{x:pL}(n:Int) (h:sU x=true):tU s (EJ++qt x) n=sD s n (.beg false x):=by
 have e:EJ++qt x=[]++(H3++([32]++(qt x++[]))):=by simp [H3]
 rw[e,JA n (J9 QR pQ) (UN QR pQ pQ h)];rfl
def aCi {s:St}{x:pL}(n:Int) (h:sU x=true):tU s (LG++qt x) n=sD s n (.beg true x):=by
 have e:LG++qt x=[]++(DM++([32]++(qt x++[]))):=by simp [DM]
 rw[e,JA n (J9 QR pQ) (UN QR pQ pQ h)];rfl
abbrev UO (f:sX):pL:=((a2Y++qt f.1)++[32])++qt f.2.1
def aCj {s:St}{f:sX}(n:Int) (h:uU f.1=true) (j:sU f.2.1=true):tU s (UO f) n=sD s n (.fld f.1 f.2.1):=by
 have e:UO f=[32,32]++(xB++([32]++(qt f.1++([32]++(qt f.2.1++[]))))):=by simp [xB,UO]
 rw[e,JA n (J9 EI pQ) (OG EI pQ pQ rfl (Is UM (Hh h) rfl (Is UM j rfl UL)))];have:AN [(false,xB,()),(true,f.1,()),(true,f.2.1,())]= .fld f.1 f.2.1:=by
  show ((FQ [(true,f.1,()),(true,f.2.1,())]).map fun q=>wQ.fld q.1 q.2).getD .bad=_;rw[show FQ [(true,f.1,()),(true,f.2.1,())]=some (f.1,f.2.1) from aFz ⟨⟨rfl,rfl⟩,h⟩];rfl
 rw[this]
def aCk {s:St}(n:Int):tU s [101,110,100] n=sD s n .fin:=by
 have e:([101,110,100]:pL)=[]++(O8++[]):=by simp [O8]
 rw[e,JA n (J9 QR pQ) (OG QR pQ pQ rfl UL)];rfl
def aCl {s:St}{v:Int}(n:Int) (h0:0<=v) (h4:v<=4):tU s (LF++qR .str wO v) n=sD s n (.sta v):=by
 have hw:qR .str wO v≠([]:pL)/\∀b∈qR .str wO v,u6 b=true:=by
  have:v=0\/v=1\/v=2\/v=3\/v=4:=by omega
  rcases this with rfl|rfl|rfl|rfl|rfl<;>decide
 have e:LF++qR .str wO v=[32,32]++(xN++([32]++(qR .str wO v++[]))):=by simp [xN]
 rw[e,JA n (J9 EI pQ) (OG EI pQ pQ rfl (OG UM hw.1 hw.2 rfl UL))];have:AN [(false,xN,()),(false,qR .str wO v,())]= .sta v:=by
  show ((FP [(false,qR .str wO v,())]).map wQ.sta).getD .bad=_;have h:FP [(false,qR .str wO v,())]=some (A5 (qR .str wO v)):=aFz ⟨rfl,by rw[a2V h0 h4];exact h0⟩;rw[h,a2V h0 h4];rfl
 rw[this]
def aCm:((List.range 256).all fun b=>yP (b:Int)||(u6 b.toUInt8&&decide (b≠10)))=true:=by kernel_rfl
def a3n {b:UInt8}(h:yP b.toNat=false):u6 b=true/\b≠10:=by
 have:=aGt.1 aCm b.toNat (by simpa using UInt8.toNat_lt b);rw[h] at this;simp only[Bool.false_or,aFL,aFI] at this;refine⟨?_,fun e=>this.2 (by rw[e];rfl)⟩;have e:b.toNat.toUInt8=b:=by simp
 rw[e] at this;exact this.1
def a3o {x:pL}(h:uU x=true):x≠[]/\∀b∈x,u6 b=true/\b≠10:=by
 cases x with
 |nil=>cases h
 |cons b t=>
  unfold uU at h;simp only[aFL,aF2,aGg] at h;refine⟨by simp,fun c j=>?_⟩;rcases aFN.1 j with rfl|j
  .apply a3n;have z:=h.1.2;unfold A4 at z;unfold yP;rw[z];rfl
  exact a3n (by simpa using h.2 c j)
def DS (l:pM):pL:=l.flatMap fun y=>[32]++y
def a3p (l:pM):FO (DS l)=true:=by cases l<;>rfl
def a3q: ∀(l:pM),(∀x∈l,uU x=true)->Ws (DS l) (l.map fun y=>(false,y,()))
 |[],_=>UL
 |x::r,h=>by
  have j:=a3o (h x aFT);have e:DS (x::r)=[32]++(x++DS r):=by simp [DS]
  rw[e,aGB];exact OG UM j.1 (fun b hb=>(j.2 b hb).1) (a3p r) (a3q r fun y z=>h y (aFK _ z))
def aCn {s:St}{l:pM}(n:Int) (j:l≠[]) (h: ∀x∈l,uU x=true):tU s (QP++xZ l [32]) n=sD s n (.flg l):=by
 have e:QP++xZ l [32]=[32,32]++(wW++DS l):=by
  cases l with
  |nil=>exact absurd rfl j
  |cons x r=>rw[Im];simp [wW,DS]
 rw[e,JA n (J9 EI pQ) (OG EI pQ pQ (a3p l) (a3q l h))];have e2:tA (l.map fun y=>((false,y,()):Wd))=l:=by
  unfold tA;rw[map_map]
  conv=>rhs;rw[<-map_id l]
  congr 1
 have:AN ((false,wW,())::l.map fun y=>(false,y,()))= .flg l:=by
  show (if (l.map fun y=>((false,y,()):Wd))=[]\/((l.map fun y=>((false,y,()):Wd)).any FR)=true then wQ.bad else .flg (tA (l.map fun y=>((false,y,()):Wd))))=_;rw[aFA,e2];rintro(z|z)
  .exact j (map_eq_nil_iff.1 z)
  rw[any_map,any_eq_true] at z;obtain⟨x,E,D⟩:=z;simp only[Function.comp,FR,Bool.false_or,h x E] at D;cases D
 rw[this]
def aCo:((List.range 256).all fun b=>[true,false].all fun f=> !((yU 2 b f).contains 10))=true:=by kernel_rfl
def a3r: ∀(s:pL) (f:Bool),(10:UInt8)∉BY 2 f s
 |[],_=>by simp [BY]
 |b::t,f=>by
  unfold BY;intro h;rcases aGl.1 h with h|h
  .have hf:f∈[true,false]:=by cases f<;>simp
   have:=aGt.1 (aGt.1 aCo b.toNat (by simpa using UInt8.toNat_lt b)) f hf;simp at this;exact this h
  exact a3r t false h
def a3s (x:pL):(10:UInt8)∉qt x:=by
 unfold qt;rw[Ii];intro h;simp only[aGl,aFR] at h;rcases h with(h|h) |h
 .exact absurd h pQ
 .exact a3r x true h
 exact absurd h pQ
def UP {p x:pL}(hp:(10:UInt8)∉p):(10:UInt8)∉p++qt x:=fun h=>(aGl.1 h).elim hp (a3s x)
structure aCp (x:tT):Prop where
 id0:x.1≠[]
 idl:x.1.length<=200
 idt:sU x.1=true
 sc:sU x.2.1=true
 tg:sU x.2.2.1=true
 cm:w8 x.2.2.2.1=true
 fg:CJ x.2.2.2.2.1=true
 sv0:0<=x.2.2.2.2.2.1
 sv4:x.2.2.2.2.2.1<=4
 fd:vQ x.2.2.2.2.2.2.1=true
def It {x:tT}(h:zF x=true):aCp x:=by
 unfold zF at h;simp only[aFL,aFI,aF2,aGd] at h;obtain⟨⟨⟨⟨⟨⟨⟨⟨I,K⟩,h3⟩,h4⟩,G⟩,F⟩,E⟩,D,z⟩,j⟩:=h;exact⟨I,pP,h3,h4,G,F,E,D,z,j⟩
def xP (p s:pL):pM:=if s=[] then[] else[(p++qt s)++[10]]
def EK (n:Int):pM:=if n=0 then[] else[(LF++qR .str wO n)++[10]]
def FV (l:pM):pM:=if l=[] then[] else[(QP++xZ l [32])++[10]]
def CL (x:tT):pM:=[10]::(((EJ++qt x.1)++[10])::(x.2.2.2.1.map xD++(xP A8 x.2.1++(xP AO x.2.2.1++(EK x.2.2.2.2.2.1++(FV x.2.2.2.2.1++(x.2.2.2.2.2.2.1.map A9++[H7])))))))
def JB (c:C4):pM:=((LG++qt c.1)++[10])::(c.2.1.map xD++(c.2.2.1.map A9++[H7]))
def aCq (p s:pL):(xP p s).flatten=H9 p s:=by
 unfold xP H9;split<;>simp
def aCr (n:Int):(EK n).flatten=QQ n:=by
 unfold EK QQ;split<;>simp
def aCs (l:pM):(FV l).flatten=J7 l:=by
 unfold FV J7;split<;>simp
def aCt (x:tT):(CL x).flatten=AA x:=by
 unfold CL AA iE iD iC iB iA;simp only[aGq,flatten_append,aCq,aCr,aCs,flatten_nil,append_nil,<-flatMap_def];unfold H8 J6;simp
def aCu (c:C4):(JB c).flatten=EH c:=by
 unfold JB EH;simp only[aGq,flatten_append,flatten_nil,append_nil,<-flatMap_def];unfold H8 J6;simp
def LJ {u:pL}(h:(10:UInt8)∉u):J8 (u++[10]):=⟨u,rfl,h⟩
def a3t (x:pL):J8 (xD x):=LJ (UP pQ)
def a3u (f:sX):J8 (A9 f):=LJ (u:=UO f) fun h=>by
 rcases aGl.1 h with h|h
 .rcases aGl.1 h with h|h
  .exact UP pQ h
  exact absurd h pQ
 exact a3s _ h
def a3v:J8 H7:=⟨[101,110,100],rfl,pQ⟩
def a3w {p s:pL}(hp:(10:UInt8)∉p):BZ (xP p s):=fun l hl=>by
 unfold xP at hl;split at hl
 .cases hl
 rw[aFR.1 hl];exact LJ (UP hp)
def bn {α:Type}{f:α->pL}(h: ∀x,J8 (f x)) (l:List α):BZ (l.map f):=fun x j=>by
 obtain⟨y,_,rfl⟩:=mem_map.1 j;exact h y
def a3x {l:pL}(h:J8 l):BZ [l]:=fun x j=>by rw[aFR.1 j];exact h
def aCv {n:Int}(h0:0<=n) (h4:n<=4):BZ (EK n):=fun l hl=>by
 unfold EK at hl;split at hl
 .cases hl
 rw[aFR.1 hl];refine LJ ?_;have:n=0\/n=1\/n=2\/n=3\/n=4:=by omega
 rcases this with rfl|rfl|rfl|rfl|rfl<;>decide
def aCw (l:pM) (h: ∀x∈l,uU x=true):(10:UInt8)∉DS l:=fun hm=>by
 unfold DS at hm;obtain⟨y,z,D⟩:=mem_flatMap.1 hm;rcases aGl.1 D with j|j
 .exact absurd j pQ
 exact((a3o (h y z)).2 _ j).2 rfl
def a3y {x:pL}{r:pM}:[32]++xZ (x::r) [32]=DS (x::r):=by
 rw[Im];simp [DS]
def aCx {l:pM}(h: ∀x∈l,uU x=true):BZ (FV l):=fun q hq=>by
 unfold FV at hq;split at hq
 .cases hq
 rename_i z;rw[aFR.1 hq];refine LJ fun hm=>?_;cases l with
 |nil=>exact z rfl
 |cons x r=>
  have e:QP++xZ (x::r) [32]=[32,32,102,108,97,103,115]++DS (x::r):=by rw[<-a3y];simp
  rw[e] at hm;rcases aGl.1 hm with j|j
  .exact absurd j pQ
  exact aCw _ h j
def Iu {l:pL}{r:pM}(h:J8 l) (hr:BZ r):BZ (l::r):=fun x j=>(aFN.1 j).elim (fun e=>e▸h) (hr x)
def aCy {x:tT}(h:zF x=true):BZ (CL x):=by
 have p:=It h;exact Iu (LJ (u:=[]) pR) (Iu (LJ (UP pQ)) (LI (bn a3t _) (LI (a3w pQ) (LI (a3w pQ)
  (LI (aCv p.sv0 p.sv4) (LI (aCx (af p.fg).2.1) (LI (bn a3u _) (a3x a3v))))))))
def aCz (c:C4):BZ (JB c):=Iu (LJ (UP pQ)) (LI (bn a3t _) (LI (bn a3u _) (a3x a3v)))
def bo {s s':St}{u:pL}{a:Nat}(h: ∀n,tU s u n=(0,s')):v8 [u++[10]] s a= .inr s':=a3k (by rw[a3h];exact h _)
def UQ {s s':St}{u:pL}{ls:pM}{a:Nat}(h: ∀n,tU s u n=(0,s')):v8 ((u++[10])::ls) s a=v8 ls s' (a+(u++[10]).length):=by
 rw[bm,a3h,h,aFz rfl]
def Iv: ∀(l:pM) (s:St) (a:Nat),s.op=true->s.cm.length+l.length<=20->(∀x∈l,sU x=true)->
  ∃la na,v8 (l.map xD) s a= .inr {s with cm:=s.cm++l,last:=la,name:=na}
 |[],s,a,_,_,_=>⟨s.last,s.name,by rw[append_nil];rfl⟩
 |x::r,s,a,ho,hl,h=>by
  rw[aFF] at hl;obtain⟨la,na,e⟩:=Iv r {s with cm:=s.cm++[x],last:=wF,name:=[]} (a+(xD x).length) ho pS (fun y j=>h y (aFK _ j))
  refine⟨la,na,?_⟩;rw[aGB];refine(UQ (u:=bc++qt x) (s':={s with cm:=s.cm++[x],last:=wF,name:=[]}) fun n=>?_).trans (e.trans ?_)
  .rw[aCe n (h x aFT),sD,aFA (by rw[ho];simp),aFA pP]
  simp
def Iw: ∀(l:List sX) (s:St) (a:Nat),s.op=true->s.fd.length+l.length<=20->(∀x∈l,uU x.1=true/\sU x.2.1=true)->(s.fd++l).Pairwise (fun a b=>a.1<b.1)->
  ∃la na,v8 (l.map A9) s a= .inr {s with fd:=s.fd++l,last:=la,name:=na}
 |[],s,a,_,_,_,_=>⟨s.last,s.name,by rw[append_nil];rfl⟩
 |x::r,s,a,ho,hl,D,hp=>by
  rw[aFF] at hl;have z: ∀y∈s.fd,y.1<x.1:=fun y j=>(aHv.1 hp).2.2 y j x aFT;have G:(x.1,(x.2.1,()))=x:=rfl;obtain⟨la,na,e⟩:=Iw r {s with fd:=s.fd++[x],last:=xB,name:=x.1} (a+(A9 x).length) ho pS (fun y j=>D y (aFK _ j)) (by simpa using hp)
  refine⟨la,na,?_⟩;rw[aGB];refine(UQ (u:=UO x) (s':={s with fd:=s.fd++[x],last:=xB,name:=x.1}) fun n=>?_).trans (e.trans ?_)
  .have E: ¬(s.fd.any fun y=>decide (y.1=x.1))=true:=fun h=>by
    obtain⟨y,j,F⟩:=any_eq_true.1 h;have:=z y j;rw[aGc F] at this;exact List.lt_irrefl _ this
   rw[aCj n (D x aFT).1 (D x aFT).2,sD,aFA (by rw[ho];simp),aFA E,aFA pP,aBV z]
  simp
def aCA {x:pL}{s:St}{a:Nat}(ho:s.op=true) (z:s.ends≠[]) (hb:s.bs=false) (h0:s.sc=[]) (h:sU x=true): ∃b la na,v8 (xP A8 x) s a= .inr {s with sc:=x,bs:=b,last:=la,name:=na}:=by
 unfold xP;split
 .rename_i j;exact⟨s.bs,s.last,s.name,by rw[j,<-h0];rfl⟩
 exact⟨true,uK,[],bo fun n=>by rw[aCf n h,sD,aFA (by simp [ho,z]),aFA (by simp [hb])]⟩
def aCB {x:pL}{s:St}{a:Nat}(ho:s.op=true) (z:s.ends≠[]) (hb:s.bt=false) (h0:s.tg=[]) (h:sU x=true): ∃b la na,v8 (xP AO x) s a= .inr {s with tg:=x,bt:=b,last:=la,name:=na}:=by
 unfold xP;split
 .rename_i j;exact⟨s.bt,s.last,s.name,by rw[j,<-h0];rfl⟩
 exact⟨true,uL,[],bo fun n=>by rw[aCg n h,sD,aFA (by simp [ho,z]),aFA (by simp [hb])]⟩
def aCC {v:Int}{s:St}{a:Nat}(ho:s.op=true) (j:s.ends≠[]) (hb:s.bh=false) (h0:s.sv=0) (z:0<=v) (h4:v<=4): ∃b la na,v8 (EK v) s a= .inr {s with sv:=v,bh:=b,last:=la,name:=na}:=by
 unfold EK;split
 .rename_i h;exact⟨s.bh,s.last,s.name,by rw[h,<-h0];rfl⟩
 exact⟨true,[],[],bo fun n=>by rw[aCl n z h4,sD,aFA (by simp [ho,j]),aFA (by simp [hb])]⟩
def aCD {l:pM}{s:St}{a:Nat}(ho:s.op=true) (j:s.ends≠[]) (hb:s.bf=false) (h0:s.fg=[]) (hf:CJ l=true): ∃b la na,v8 (FV l) s a= .inr {s with fg:=l,bf:=b,last:=la,name:=na}:=by
 unfold FV;split
 .rename_i h;exact⟨s.bf,s.last,s.name,by subst h;rw[show ({s with fg:=[],bf:=s.bf,last:=s.last,name:=s.name}:St)=s from by cases s;cases h0;rfl];rfl⟩
 rename_i h;obtain⟨f1,f2,f3⟩:=af hf;have z:DN l=false:=(aAJ l).2 (a1F f3);exact⟨true,[],[],bo fun n=>by rw[aCn n h f2,sD,aFA (by simp [ho,j]),aFA (by simp [hb,z]),aFA pP,aAH f3]⟩
def a3z {s:St}{a:Nat}(ho:s.op=true):v8 [H7] s a= .inr (uP (if s.ends=[] then(s.c.1,(s.cm,(s.fd,s.c.2.2.2))) else(s.c.1,(s.c.2.1,(s.c.2.2.1,(s.c.2.2.2.1++[s.x],()))))) (s.ends++[((a+4:Nat):Int)])):=
 a3k (by rw[show uB H7=[101,110,100] from rfl,aCk,sD,aFA (by rw[ho];simp)];rfl)
def aCE {s:St}{a:Nat}(ho:s.op=true) (h:s.ends≠[]):v8 [H7] s a= .inr (uP (s.c.1,(s.c.2.1,(s.c.2.2.1,(s.c.2.2.2.1++[s.x],())))) (s.ends++[((a+4:Nat):Int)])):=by
 rw[a3z ho,aFA h]
def FW {A B:pM}{s m:St}{r:(Nat×Int)⊕St}{a:Nat}(h:v8 A s a= .inr m) (j:v8 B m (a+A.flatten.length)=r):v8 (A++B) s a=r:=(a3j A B s a h).trans j
def Ix (ls:pM) (x:tT):Prop:= ∀(c:C4) (ends:pV) (a:Nat),ends≠[]->(∀y∈c.2.2.2.1,y.1≠x.1)->c.2.2.2.1.length<1000->
 v8 ls (uP c ends) a= .inr (uP (c.1,(c.2.1,(c.2.2.1,(c.2.2.2.1++[x],())))) (ends++[((a+ls.flatten.length:Nat):Int)]))
def bp (ls:pM) (t:pL) (cm:pM) (fd:List sX):Prop:=v8 ls tQ 0= .inr (uP (t,(cm,(fd,([],())))) [((ls.flatten.length:Nat):Int)])
def Iy (ls:pM):Prop:= ∀(c:C4) (ends:pV) (a:Nat),v8 ls (uP c ends) a= .inr (uP c ends)
def aCF {c:C4}(z:wN c.1=true) (D:w8 c.2.1=true) (hf:vQ c.2.2.1=true):bp (JB c) c.1 c.2.1 c.2.2.1:=by
 obtain⟨c1,c2⟩:=GZ D;obtain⟨f1,f2,f3⟩:=H0 hf;unfold bp;have e0:v8 (JB c) tQ 0=v8 (c.2.1.map xD++(c.2.2.1.map A9++[H7])) (yS tQ (c.1,tQ.c.2) c.1) (0+((LG++qt c.1)++[10]).length):=UQ fun n=>by
  rw[aCi n (a2W z),sD,aFA (by simp [tQ,uP]),aFz z]
 obtain⟨la,na,e1⟩:=Iv c.2.1 (yS tQ (c.1,tQ.c.2) c.1) (0+((LG++qt c.1)++[10]).length) rfl (by show 0+_<=_;omega) c2;obtain⟨la',na',e2⟩:=Iw c.2.2.1 {(yS tQ (c.1,tQ.c.2) c.1) with cm:=[]++c.2.1,last:=la,name:=na} (0+((LG++qt c.1)++[10]).length+(c.2.1.map xD).flatten.length) rfl (by show 0+_<=_;omega) (fun x j=>⟨(f2 x j).1,(f2 x j).2.2⟩) (by simpa[yS] using f3)
 rw[e0];refine FW e1 (FW e2 ((a3z rfl).trans ?_));have h:(JB c).flatten.length=0+((LG++qt c.1)++[10]).length+(c.2.1.map xD).flatten.length+(c.2.2.1.map A9).flatten.length+4:=by
  unfold JB;simp only[aGq,flatten_append,aFD,flatten_nil,aFS,aFF];omega
 rw[h];simp [yS,tQ,uP]
def aCG {x:tT}(h:zF x=true):Ix (CL x) x:=by
 intro c ends a j E M;have p:=It h;obtain⟨c1,c2⟩:=GZ p.cm;obtain⟨f1,f2,f3⟩:=H0 p.fd;have D: ¬(c.2.2.2.1.any fun y=>decide (y.1=x.1))=true:=fun h=>by
  obtain⟨y,G,K⟩:=any_eq_true.1 h;exact E y G (aGc K)
 have e0:v8 (CL x) (uP c ends) a=v8 (x.2.2.2.1.map xD++(xP A8 x.2.1++(xP AO x.2.2.1++(EK x.2.2.2.2.2.1++(FV x.2.2.2.2.1++(x.2.2.2.2.2.2.1.map A9++[H7])))))) (yS (uP c ends) c x.1) (a+1+((EJ++qt x.1)++[10]).length):=by
  refine(UQ (u:=[]) (s':=uP c ends) fun n=>aCd n rfl).trans ?_;exact UQ fun n=>by
   rw[aCh n p.idt,sD,aFA (by simp [uP,j]),aFA (by rintro(h|h);exact p.id0 h;have:=p.idl;omega),aFA (show¬((uP c ends).c.2.2.2.1.any fun y=>decide (y.1=x.1))=true from D),aFA (show¬1000<=(uP c ends).c.2.2.2.1.length from by show¬1000<=c.2.2.2.1.length;omega)]
   rfl
 rw[e0];obtain⟨l1,n1,e1⟩:=Iv x.2.2.2.1 (yS (uP c ends) c x.1) (a+1+((EJ++qt x.1)++[10]).length) rfl (by show 0+_<=_;omega) c2;refine FW e1 ?_;obtain⟨b2,l2,n2,e2⟩:=aCA (x:=x.2.1) (s:={yS (uP c ends) c x.1 with cm:=[]++x.2.2.2.1,last:=l1,name:=n1}) (a:=a+1+((EJ++qt x.1)++[10]).length+(x.2.2.2.1.map xD).flatten.length) rfl j rfl rfl p.sc
 refine FW e2 ?_;obtain⟨b3,l3,n3,e3⟩:=aCB (x:=x.2.2.1) (s:={yS (uP c ends) c x.1 with cm:=[]++x.2.2.2.1,sc:=x.2.1,bs:=b2,last:=l2,name:=n2}) (a:=a+1+((EJ++qt x.1)++[10]).length+(x.2.2.2.1.map xD).flatten.length+(xP A8 x.2.1).flatten.length) rfl j rfl rfl p.tg
 refine FW e3 ?_;obtain⟨b4,l4,n4,e4⟩:=aCC (v:=x.2.2.2.2.2.1) (s:={yS (uP c ends) c x.1 with cm:=[]++x.2.2.2.1,sc:=x.2.1,bs:=b2,tg:=x.2.2.1,bt:=b3,last:=l3,name:=n3}) (a:=a+1+((EJ++qt x.1)++[10]).length+(x.2.2.2.1.map xD).flatten.length+(xP A8 x.2.1).flatten.length+(xP AO x.2.2.1).flatten.length) rfl j rfl rfl p.sv0 p.sv4
 refine FW e4 ?_;obtain⟨b5,l5,n5,e5⟩:=aCD (l:=x.2.2.2.2.1) (s:={yS (uP c ends) c x.1 with cm:=[]++x.2.2.2.1,sc:=x.2.1,bs:=b2,tg:=x.2.2.1,bt:=b3,sv:=x.2.2.2.2.2.1,bh:=b4,last:=l4,name:=n4}) (a:=a+1+((EJ++qt x.1)++[10]).length+(x.2.2.2.1.map xD).flatten.length+(xP A8 x.2.1).flatten.length+(xP AO x.2.2.1).flatten.length+(EK x.2.2.2.2.2.1).flatten.length) rfl j rfl rfl p.fg
 refine FW e5 ?_;obtain⟨l6,n6,e6⟩:=Iw x.2.2.2.2.2.2.1 {yS (uP c ends) c x.1 with cm:=[]++x.2.2.2.1,sc:=x.2.1,bs:=b2,tg:=x.2.2.1,bt:=b3,sv:=x.2.2.2.2.2.1,bh:=b4,fg:=x.2.2.2.2.1,bf:=b5,last:=l5,name:=n5} (a+1+((EJ++qt x.1)++[10]).length+(x.2.2.2.1.map xD).flatten.length+(xP A8 x.2.1).flatten.length+(xP AO x.2.2.1).flatten.length+(EK x.2.2.2.2.2.1).flatten.length+(FV x.2.2.2.2.1).flatten.length) rfl (by show 0+_<=_;omega) (fun x F=>⟨(f2 x F).1,(f2 x F).2.2⟩) (by simpa[yS] using f3)
 refine FW e6 ((aCE rfl j).trans ?_);have z:(CL x).flatten.length=1+((EJ++qt x.1)++[10]).length+(x.2.2.2.1.map xD).flatten.length+(xP A8 x.2.1).flatten.length+(xP AO x.2.2.1).flatten.length+(EK x.2.2.2.2.2.1).flatten.length+(FV x.2.2.2.2.1).flatten.length+(x.2.2.2.2.2.2.1.map A9).flatten.length+4:=by
  unfold CL;simp only[aGq,flatten_append,aFD,flatten_nil,aFS,aFF];omega
 have I:((a+(CL x).flatten.length:Nat):Int)=((a+1+((EJ++qt x.1)++[10]).length+(x.2.2.2.1.map xD).flatten.length+(xP A8 x.2.1).flatten.length+(xP AO x.2.2.1).flatten.length+(EK x.2.2.2.2.2.1).flatten.length+(FV x.2.2.2.2.1).flatten.length+(x.2.2.2.2.2.2.1.map A9).flatten.length+4:Nat):Int):=by rw[z];congr 1;omega
 rw[I];rfl
def aCH (x:tT):CL x≠[]:=by unfold CL;simp
def aCI:Iy []:=fun _ _ _=>rfl
abbrev nI (l:pZ):pV:=l.map fun n:Nat=>(n:Int)
def UR:List pM->List tT->Prop
 |[],[]=>True
 |g::G,x::es=>(g≠[]/\Ix g x)/\UR G es
 |_,_=>False
def a3A {f:tT->pM}: ∀{es:List tT},(∀x∈es,f x≠[]/\Ix (f x) x)->UR (es.map f) es
 |[],_=>trivial
 |x::es,h=>⟨h x aFT,a3A fun y j=>h y (aFK _ j)⟩
def a3B: ∀{G:List pM}{es:List tT}{c:C4}{ends:pV}{a:Nat},UR G es->ends≠[]->(c.2.2.2.1++es).Pairwise (fun a b=>a.1≠b.1)->(c.2.2.2.1++es).length<=1000->
  v8 G.flatten (uP c ends) a= .inr (uP (c.1,(c.2.1,(c.2.2.1,(c.2.2.2.1++es,())))) (ends++nI (az a (G.map List.flatten))))
 |[],[],c,ends,a,_,_,_,_=>by
  show Sum.inr (uP c ends)=_;rw[append_nil,map_nil];show _=Sum.inr (uP _ (ends++[]));rw[append_nil]
 |g::G,x::es,c,ends,a,h,z,hp,hl=>by
  have E:c.2.2.2.1.length+(es.length+1)<=1000:=by simpa using hl
  have D:=h.1.2 c ends a z (fun y j=>(aHv.1 hp).2.2 y j x aFT) pP;rw[aGq];refine FW D ?_;rw[a3B h.2 pR (by simpa using hp) pS];simp [az,nI]
 |[],_::_,_,_,_,h,_,_,_=>h.elim
 |_::_,[],_,_,_,h,_,_,_=>h.elim
abbrev bq (H:pM) (G:List pM):pV:=nI (H.flatten.length::az H.flatten.length (G.map List.flatten))
def aCJ {H T:pM}{G:List pM}{t:pL}{cm:pM}{fd:List sX}{es:List tT}(hH:bp H t cm fd) (h:UR G es) (hT:Iy T) (hp:es.Pairwise (fun a b=>a.1≠b.1)) (hl:es.length<=1000):
  v8 (H++(G.flatten++T)) tQ 0= .inr (uP (t,(cm,(fd,(es,())))) (bq H G)):=by
 refine FW hH (FW (a3B h pR (by simpa using hp) (by simpa using hl)) ((hT _ _ _).trans ?_));simp [bq,nI]
def aCK {H T:pM}{G:List pM}{t:pL}{cm:pM}{fd:List sX}{es:List tT}(hH:bp H t cm fd) (j:UR G es) (hT:Iy T) (hp:es.Pairwise (fun a b=>a.1≠b.1)) (hl:es.length<=1000)
  (h:UK (H++(G.flatten++T))):DQ (H++(G.flatten++T)).flatten= .inr (uP (t,(cm,(fd,(es,())))) (bq H G)):=by
 rw[aB9,a3g _ h,aCJ hH j hT hp hl];exact aFA (by simp [uP])
def aCL (G:List pM):(G.map List.flatten).flatten=G.flatten.flatten:=by
 induction G with
 |nil=>rfl
 |cons g G ih=>rw[aGB,aGq,aGq,flatten_append,ih]
def QS (s:pL):(qt s).length≤6*s.length+2:=by
  have:=Ih (n:=2) rfl s;simp only[qt,aFD,aFF,aFS];omega
def a3C {x:pL}(h:uU x=true):x.length≤40:=by
  cases x with
  |nil=>simp
  | cons b t=>
    unfold uU at h;simp only[aFL,aF2,aGd] at h;rw[aFF];omega
def a3D {l:pM}(h:w8 l=true):(H8 l).length≤480260:=by
  obtain⟨D,z⟩:=GZ h
  have:=LD (l:=l) (h:=xD) (B:=24013) fun x j=>by
    have:=QS x;have:=BW (z x j);simp only[xD,aFD,aFF,aFS];omega
  unfold H8;have:=aGM 24013 D;omega
def a3E {l:List sX}(h:vQ l=true):(J6 l).length≤485080:=by
  obtain⟨D,z,_⟩:=H0 h
  have:=LD (l:=l) (h:=A9) (B:=24254) fun x j=>by
    have:=QS x.1;have:=QS x.2.1;have:=a3C (z x j).1;have:=BW (z x j).2.2;simp only[A9,aFD,aFF,aFS];omega
  unfold J6;have:=aGM 24254 D;omega
def aCM {l:pM}(h:CJ l=true):(J7 l).length≤1000:=by
  obtain⟨E,D,_⟩:=af h;unfold J7;split
  .simp
  rename_i j
  cases l with
  |nil=>exact absurd rfl j
  | cons x r=>
    have e:=aFZ List.length (a3y (x:=x) (r:=r))
    have:=LD (l:=x::r) (h:=fun y=>[32]++y) (B:=41) fun y z=>by
      have:=a3C (D y z);simp only[aFD,aFF,aFS];omega
    have h3:=aGM 41 E;unfold DS at e;simp only[aFD,aFF,aFS] at e h3 this|-;omega
def a3F {p s:pL}(hp:p.length≤10) (h:sU s=true):(H9 p s).length≤24013:=by
  have:=QS s;have:=BW h;unfold H9;split
  .simp
  simp only[aFD,aFF,aFS];omega
def aCN {x:tT}(h:zF x=true):(AA x).length≤1016000:=by
  have p:=It h;have G:=a3D p.cm;have F:=a3E p.fd;have h3:=aCM p.fg;have h4:=a3F (p:=A8) pQ p.sc;have E:=a3F (p:=AO) pQ p.tg;have D:=a29 p.sv0 p.sv4;have z:=QS x.1;have j:=p.idl;unfold AA iE iD iC iB iA;simp only[aFD,aFF,aFS];omega
def aCO {c:C4}(h:wP c=true):(EH c).length≤1000000:=by
  obtain⟨k1,k2,k3,_⟩:=U1 h;have z:=a3D k2;have j:=a3E k3;have h3:=QS c.1;have h4:=BW (a2W k1);unfold EH;simp only[aFD,aFF,aFS];omega
def aCP {c:C4}(h:wP c=true):(HC c).length≤1100000000:=by
  obtain⟨k1,k2,k3,k4,k5,_⟩:=U1 h;have z:=aCO h;have:=LD (l:=c.2.2.2.1) (h:=AA) (B:=1016000) fun x j=>aCN (k5 x j);unfold HC LE;rw[←flatMap_def];simp only[aFD,aFS];have:=aGM 1016000 k4;omega
def aCQ (l:List tT):(l.map CL).map List.flatten=l.map AA:=by
  rw[map_map];exact map_congr_left fun x _=>aCt x
def aCR (c:C4):HC c=(JB c++((c.2.2.2.1.map CL).flatten++[])).flatten:=by
  rw[flatten_append,aCu,flatten_append,←aCL,aCQ];rfl
def aCS {l:List tT}(h: ∀x∈l,zF x=true):BZ (l.map CL).flatten:=fun q hq=>by
  obtain⟨g,z,D⟩:=mem_flatten.1 hq;obtain⟨x,j,rfl⟩:=mem_map.1 z;exact aCy (h x j) q D
def aCT {c:C4}(h:wP c=true):DQ (HC c)= .inr (uP c (bq (JB c) (c.2.2.2.1.map CL))):=by
  obtain⟨k1,k2,k3,k4,k5,k6⟩:=U1 h;rw[aCR];exact aCK (aCF k1 k2 k3) (a3A fun x j=>⟨aCH x,aCG (k5 x j)⟩) aCI k6 k4 (Ir (aCz c) (Ir (aCS k5) trivial))
def a3G {c:C4}(h:wP c=true):zM (HC c)=some (c.1,c.2.1,c.2.2.1,c.2.2.2.1,0,0):=by
  rw[a2q (aCP h),aCT h];rfl
def aCU {s:pL}(hsm:s.length≤1100000000): ∃v,zM s=some v∧(v.2.2.2.2.2=0→wP (v.1,(v.2.1,(v.2.2.1,(v.2.2.2.1,()))))=true)∧(v.2.2.2.2.2≠0→v.1=[]∧v.2.1=[]∧v.2.2.1=[]∧v.2.2.2.1=[]):=by
  refine⟨_,a2q hsm,?_⟩;have j:=a2p hsm;cases hr:DQ s with
  | inl q=>
    rw[hr] at j;exact⟨fun h=>absurd h j.2.2,fun _=>⟨rfl,rfl,rfl,rfl⟩⟩
  |inr st=>exact⟨fun _=>(aBu hr).2.2.2.2,fun h=>absurd rfl h⟩
def aCV {c:C4}(E:av c) (s:pL):O0 c s=some true:=by
  unfold O0;rw[aBv,aFC,aFA pQ];obtain⟨b,hb,hf⟩:=aBJ E;rw[hb,aFC];by_cases h:((!b)||(decide ((4000:Int)<(s.length:Int))))=true
  .rw[aFz h]
  rw[aFA h]
  simp only[aGU,aF2,aFI,not_or,Bool.not_eq_false] at h;have hw:=hf h.1;have hsm:s.length≤1100000000:=by have:=h.2;omega
  rw[a2A hw.fitP,aFC];obtain⟨v,p1,p2,p3⟩:=aCU hsm
  have step1:(if wP c=true then
    (FF c).bind fun O=>
    (zM O.1).bind fun Z=>
    if ((((!decide (O.2=(0:Int)))||(!decide (Z.2.2.2.2.2=(0:Int))))==false)=true→((DE (Z.1,(Z.2.1,(Z.2.2.1,(Z.2.2.2.1,())))) c)).isSome=true) then
     if (((!decide (O.2=(0:Int)))||(!decide (Z.2.2.2.2.2=(0:Int))))||(!((((decide (Z.1=c.1))&&(val (wV Z.2.1 c.2.1)))&&(val (zY Z.2.2.1 c.2.2.1)))&&(val (DC Z.2.2.2.1 c.2.2.2.1)))))=true then
      some (.inr (false))
     else
      some (.inl ())
    else none
   else
    some (.inl ()):Option (Unit⊕Bool))=some (.inl ()):=by
    by_cases j:wP c=true
    . rw[aFz j,Io hw,aFz j,aFC,a3G j,aFC]
      dsimp only;obtain⟨q1,q2⟩:=a1w j;rw[q2,aFz (fun _=>by rw[show DE (c.1,(c.2.1,(c.2.2.1,(c.2.2.2.1,())))) c=DE c c from rfl,q1];rfl),aFA pR]
    rw[aFA j]
  rw[step1];show (zM s).bind _=some true;rw[p1,aFC];by_cases D:v.2.2.2.2.2=0
  . rw[aFA (by simp [D])]
    have j:=p2 D;have z:=aBW j;rw[Io z,aFz j,aFC];dsimp only;rw[a3G j,aFC];dsimp only;rw[Io z,aFz j,aFC];dsimp only;obtain⟨q1,q2⟩:=a1w j;dsimp only at q1 q2;rw[a2A z.fitP,j,aFz FL,q1,aFz FL,q2];simp [val]
  rw[aFz (by simp [D])]
  obtain⟨e1,e2,e3,e4⟩:=p3 D;rw[e1,e2,e3,e4,aAx,aFC,L6 _ QG,QH _ QG,ae _ QG (fun _ h=>by cases h)];rfl
end Go.Proofs.YtcpbaddnmpeipaaGreatDoor
namespace Go.Proofs.YtcpbaddnmpeipaaGreatDoor
open Go.ChangeShapes Go.WideShapes Go.ChangeAt Go.RowKit
section
variable {H:Type}{enc:TypeId×q9->H}{P:Program}
theorem aCW (hl:laidOutB P=true) {W W':q8}(hb:Below W.heap.size W W'):
  ∀{ts:List TypeId}{vs:pW}{ds:List (DataW H)}{ps:List MemPlace},(∀t∈ts,P.readableRec t=true/\t<P.types.size)->
  DataW.TrodAll enc P W 0 (fun _=>true) true ts vs ds ps->(∀x∈ps,x.block<W.heap.size)->
  DataW.TrodAll enc P W' 0 (fun b=>decide (b<W.heap.size)) true ts vs ds ps:=by
 intro ts
 induction ts with
 |nil=>
  intro vs ds ps _ h _;obtain⟨rfl,rfl,rfl⟩:=trodAll_nil h;exact trodAll_mk0
 |cons t ts ih=>
  intro vs ds ps hr h hlt;obtain⟨v,vs',d,ds',p,q,rfl,rfl,rfl,h0,r0⟩:=trodAll_cons h;exact trodAll_cons_mk (Below.trod hl (hr t pR).1 (hr t pR).2 h0 hb (fun x hx=>hlt x (by simp [hx]))) (ih (fun t' ht'=>hr t' (by simp [ht'])) r0 (fun x hx=>hlt x (by simp [hx])))
theorem aCX {f:Func}{s:ChangeSpec}{W W':q8}{args:Array q9}{ds gs:List (DataW H)}{before:List MemPlace}{tb:TypeId}
  (hl:laidOutB P=true) (hr: ∀t∈f.params.toList,P.readableRec t=true/\t<P.types.size)
  (hW:DataW.Whole enc P f.params.toList s.vars false W args.toList ds gs before) (hv:s.vars=[])
  (hfn:s.fn H ds={results:=[.lit (.bool true)],args:=ds}) (hrt:f.resultTypes= #[tb]) (htb:P.underlying tb=some .bool)
  (hb:Below W.heap.size W W'):s.post enc P f false true false false W args (.bool true) W':=by
 have hW':=hW;obtain⟨p,q,hA,hV,rfl,hfz,hnd⟩:=hW;rw[hv] at hV;obtain⟨rfl,rfl⟩:=trodVars_none hV;have hlt: ∀x∈p,x.block<W.heap.size:=fun x hx=>by simpa using hW'.lt x (by simp [hx])
 refine⟨ds,[],p++[],[],p,[],hW',?_,?_,?_,hb.frame _,fun h=>by cases h⟩
 .rw[List.append_nil,hfn,hrt];exact trodAll_mk1 (shut_bool htb true)
 .rw[List.append_nil,hfn];exact aCW hl hb hr hA hlt
 rw[hv,List.append_nil,hfn];rfl
end
section
variable {H:Type}{enc:TypeId×q9->H}
theorem aCY {C:Checked}{f:FuncId}{fn:Func}{s:ChangeSpec}{tb:TypeId}{HD:List (String×DataW Unit)}(own:ownKnob C.prog.godebug=none) {os:Os}(started:os.Started) (F:Stop.Interp)
  (noInit:C.prog.inits.idxOf? f=none) (hfn:C.prog.funcs[f]? =some fn)
  (hl:laidOutB C.prog=true) (hr: ∀t∈fn.params.toList,C.prog.readableRec t=true/\t<C.prog.types.size) (hv:s.vars=[])
  (hrt:fn.resultTypes= #[tb]) (htb:C.prog.underlying tb=some .bool)
  (hspec: ∀(ds:List (DataW H)) (W:q8) (args:Array q9) ps,DataW.TrodAll enc C.prog W 0 (fun _=>true) true fn.params.toList args.toList ds ps->s.fn H ds={results:=[.lit (.bool true)],args:=ds})
  (witness: ∃(w:q8) (tape:Tape) (i:Input),w.os=os/\(w.forCall tape i).Shaped C.prog/\i.vars=[]/\Input.okWide C.prog (w.forCall tape i) .any w.heap.size f i/\
   (OpenSpec.ofChange s).preRow enc C.prog fn [] false HD (w.forCall tape i).memory i.args/\Assume.holds {} C.prog (lone (Frame.enter C.prog f i.args .normal) [] (w.forCall tape i)))
  (contract: ∀(W:q8) (base:Nat) (args:Array q9) (ds:List (DataW H)) (ps:List MemPlace),
   (∀(j:Nat) t v,fn.params[j]? =some t->args[j]? =some v->Value.okWide C.prog W .any base t v)->
   DataW.TrodAll enc C.prog W 0 (fun _=>true) true fn.params.toList args.toList ds ps->
   (∀x∈ps,x.block<W.heap.size)->(DataW.weightsEach C.prog fn.params.toList ds).all (·<=reachBytes)=true->laidMetH C.prog HD W->W.ShapedOpen C.prog->
   Calls C.prog f args W fun e W'=>e= .returned (.bool true)/\Below W.heap.size W W'):
  ReturnsInHanded {} C os f .any ((OpenSpec.ofChange s).preRow enc C.prog fn [] false HD) (s.post enc C.prog fn false true false false):=by
 refine returnsInHanded_of_row (C:=C) (s:=OpenSpec.ofChange s) (F:=F) own started noInit hfn witness ?_;intro W base args ds gs before hval hW _ _ hsz hL hsh _;have hW':=hW;obtain⟨p,q,hA,hV,rfl,hfz,hnd⟩:=hW;have hV':DataW.TrodVars enc C.prog W (fun _=>true) s.vars gs q:=hV;rw[hv] at hV';obtain⟨rfl,rfl⟩:=trodVars_none hV';have hlt: ∀x∈p,x.block<W.heap.size:=fun x hx=>by simpa using hW'.lt x (by simp [hx])
 have hvt:(OpenSpec.ofChange s).bare.plain.varTypes C.prog=[]:=by
  simp [OpenSpec.ofChange,ChangeSpec.plain,hv];rfl
 rw[hvt,List.append_nil,List.append_nil] at hsz;refine(contract W base args ds p hval hA hlt hsz hL hsh).mono fun e W' ⟨he,hb⟩=>?_;subst he;exact⟨_,rfl,aCX hl hr hW' hv (hspec ds W args p hA) hrt htb hb⟩
end
end Go.Proofs.YtcpbaddnmpeipaaGreatDoor
namespace Go.Proofs.YtcpbaddnmpeipaaGreatDoor
open Go.Shelf Go.Lib
open Vc
theorem aCZ:(Rows.laid_unicode_utf8_first:DataW Unit)=Lib.firstData:=by kernel_rfl
theorem aC0:(Rows.laid_unicode_utf8_acceptRanges:DataW Unit)=Lib.acceptData:=by kernel_rfl
def a3H:pV:=[0,1,56,2,57,49,28,3,61,58,42,50,38,29,17,4,62,47,59,36,45,43,51,22,53,39,33,30,24,18,12,5,63,55,48,27,60,41,37,16,46,35,44,21,52,32,23,11,54,26,40,15,34,20,31,10,25,14,19,9,13,8,7,6]
theorem aC1:(Rows.laid_math_bits_deBruijn64tab:DataW Unit)=Lib.tabData .u8 a3H:=by kernel_rfl
theorem aC2 {P:Program}{w:q8}{g:Nat}{t:TypeId}{k:IntKind}{zero:Array q9}(h:w.ShapedOpen P) (hg:g<P.globals.size)
  (h0:((begin P (fun _ _=>0) default).world.heap[g]?).bind Obj.row? =some (zero,t)) (hz:zero.size=1)
  (hb:P.buildable t=true) (hc:P.cellTypes P.depth t=some [t]) (hu:P.underlying t=some (.int k)): ∃m,w.cell? ⟨g,0,none⟩=some (.int k m):=by
 obtain⟨cs,hh,hs,hr⟩:=h.1 g zero t hg h0;obtain⟨ts,hts,_,hall⟩:=hr hb;rw[hc] at hts;cases hts;have h1:0<cs.size:=by omega
 obtain⟨u,hu',hok⟩:=hall 0 cs[0] (by simp [h1]);have:u=t:=by simpa using hu'.symm
 subst this;have hcell:w.cell? ⟨g,0,none⟩=some cs[0]:=by simp [World.cell?,hh,h1]
 rw[hcell];unfold Cell.ok at hok;rw[hu] at hok;cases hv:cs[0]<;>rw[hv] at hok<;>simp at hok
 rename_i k' m;exact⟨m,by rw[hok.1]⟩
theorem aC3 {W:q8}(hsh:W.ShapedOpen Tryz.prog): ∃m,W.cell? ⟨0,0,none⟩=some (.int .i64 m):=
 aC2 (t:=3) (zero:= #[.int .i64 0]) hsh (aGc qC) qC rfl qC qC Tryz.underlying3
def aC4:Ren:=⟨fun x=>x,fun x=>if x=5 then 5 else if x=119 then 218 else if x=138 then 220 else 221,fun x=>if x=3 then 1 else 2⟩
theorem aC5 {w:q8}{a:Addr}{v:q9}(h:w.cell? a=some v):a.block<w.heap.size:=by
 unfold World.cell? at h;split at h
 .rename_i hb;exact(aF1.1 hb).1
 cases h
theorem aC6 {W:q8}(hL:laidMet Tryz.prog Rows.blocksPrintRow.laid W) (hsh:W.ShapedOpen Tryz.prog):FX W:=by
 obtain⟨m,hm⟩:=aC3 hsh;have h0:=laidMet.reads hL (.tail _ (.head _));have h1:=laidMet.reads hL (.tail _ (.tail _ (.tail _ (.head _))));have h2:=laidMet.reads hL (.tail _ (.tail _ (.tail _ (.tail _ (.head _)))));rw[aC1] at h0;rw[aCZ] at h2;rw[aC0] at h1;have hU:Lib.Utf8Tabs 1 2 W:=utf8Tabs_of_readsT (ρ:=aC4) ⟨qC,qC,qC,qC⟩ ⟨qC,qC,qC,qC,qC,qC,qC⟩ h2 h1;have hT:W.cell? ⟨5,15,none⟩=some (.int .u8 4):=by
  obtain⟨g,t,cs,fuel,p,hg,ht,hv,hd⟩:=h0;have hg0:Tryz.prog.globalNamed "math/bits.deBruijn64tab" =some 5:=by kernel_rfl
  have ht0:(Tryz.prog.globals[5]?).map (·.type)=some 273:=by kernel_rfl
  obtain rfl:=aFE (hg0.symm.trans hg);obtain rfl:=aFE (ht0.symm.trans ht);have hc:=cells_of_tab Tryz.underlying273 Tryz.underlying5 qC qC hd;rw[World.var?_cell hg hv 15,<-aGF,hc];rfl
 refine⟨?_,hU,⟨m,hm⟩,fun x hx=>?_⟩
 .have b0:5<W.heap.size:=aC5 hT;show 6<=W.heap.size;omega
 unfold Jc at hx;obtain rfl:=aFR.1 hx;exact⟨pQ,hT⟩
noncomputable def br (os:Os):q8:=
 let w0:=World.holding Tryz.prog os ⟨#[],#[],[]⟩
 let uH (h:Array Obj) (g:Nat) (cs:Array q9):Array Obj:=h.modify g fun
  | .cells _ t frozen=> .cells cs t frozen
  |o=>o
 let h1:=uH w0.heap 1 (Lib.firstTab.map fun z=>Value.int .u8 z).toArray
 let h2:=uH h1 2 ((List.range 16).flatMap fun i=>[Value.int .u8 (Lib.accLo i),Value.int .u8 (Lib.accHi i)]).toArray
 let h3:=uH h2 5 (a3H.map fun z=>Value.int .u8 z).toArray
 let h4:=uH h3 4 (([0,1,28,2,29,14,24,3,30,22,20,15,25,17,4,8,31,27,13,23,21,19,16,7,26,12,18,6,11,5,10,9]:pV).map fun z=>Value.int .u8 z).toArray
 let h5:=uH h4 3 ((List.range 20).map fun i=>Value.int .u64 (10^i)).toArray
 {w0 with heap:=h5}
theorem aC7 (os:Os) (args:Array q9):laidMet Tryz.prog Rows.blocksPrintRow.laid ((br os).forCall (fun _ _=>0) ⟨#[],args,[]⟩).memory:=
 (LaidIn.of_run [4,5,3,2,1] 8 qC qC qC qC:LaidIn Tryz.prog _ Rows.blocksPrintRow.laid _).met
end Go.Proofs.YtcpbaddnmpeipaaGreatDoor
namespace Go.Proofs.YtcpbaddnmpeipaaGreatDoor
open Vc Go.RowKit
inductive Iz where
 |ty (t:TypeId) |fs (o:Nat) (l:List Field)
inductive zH (P:Program):Iz->Ty->Prop
 |bool {t}:P.underlying t=some .bool->zH P (.ty t) .bool
 |int {t k}:P.underlying t=some (.int k)->zH P (.ty t) (.int k)
 |str {t}:P.underlying t=some .string->zH P (.ty t) .str
 |list {t e u}:P.underlying t=some (.slice e)->P.cellsOf e=u.cells->0<u.cells->0<P.bytesOf e->zH P (.ty e) u->zH P (.ty t) (.list u)
 |struct {t fs ty}:ty.isRow=true->P.underlying t=some (.struct fs)->P.cellsOf t=ty.cells->zH P (.fs 0 fs.toList) ty->zH P (.ty t) ty
 |nil {o}:zH P (.fs o []) .unit
 |cons {o}{f:Field}{r a b}:f.offset=o->P.cellsOf f.type=a.cells->zH P (.ty f.type) a->zH P (.fs (o+a.cells) r) b->zH P (.fs o (f::r)) (.pair a b)
def Bd:(t:Ty)->t.den->Prop
 | .str,s=>List.length s<=140737488351232
 | .int k,n=>(Lit.int k n).wf=true
 | .list u,l=>List.length l<=140737488351232/\∀x:u.den,x∈(l:List u.den)->Bd u x
 | .pair a b,x=>Bd a x.1/\Bd b x.2
 |_,_=>True
def JC (w:q8):Gh:=⟨fun b _=>b<w.heap.size,fun _=>none,fun _ _=>none⟩
theorem a3I {α:Type}{R:α->pW->Prop}{w:q8}{S:Nat->Nat->Prop}{c b:Nat}: ∀{l:List α}{o:Nat},(∀i x,l[i]? =some x->∃cs,cs.length=c/\w.rangeAt b (o+i*c) cs/\(∀j,j<c->S b (o+i*c+j))/\R x cs)->yY R w S c b o l
 |[],_,_=>trivial
 |x::l,o,h=>by
  refine⟨?_,a3I fun i y hy=>?_⟩
  .obtain⟨cs,h1,h2,h3,h4⟩:=h 0 x rfl;exact⟨cs,h1,by simpa using h2,by simpa using h3,h4⟩
  obtain⟨cs,h1,h2,h3,h4⟩:=h (i+1) y (by simpa using hy);have e:o+(i+1)*c=o+c+i*c:=by rw[aGO];omega
  exact⟨cs,h1,by rw[<-e];exact h2,by rw[<-e];exact h3,h4⟩
section
variable {H:Type}{enc:TypeId×q9->H}{P:Program}{W:q8}
theorem a3J {e:TypeId}: ∀{l:List (DataW H)}{i:Nat}{d:DataW H},l[i]? =some d->∀n∈d.weights P e,n∈DataW.weightsAll P e l
 |d0::l,0,d,h,n,hn=>by
  simp only[aF8,aFy] at h;subst h;simp only[DataW.weightsAll,aGl];exact .inl hn
 |d0::l,i+1,d,h,n,hn=>by
  simp only[aGk] at h;simp only[DataW.weightsAll,aGl];exact .inr (a3J h n hn)
 |[],_,_,h,_,_=>by simp at h
def aC8 (enc:TypeId×q9->H) (P:Program) (W:q8):Iz->Ty->Prop
 | .ty t,u=> ∀(fuel:Nat) (cs:pW) (y:DataW H×List MemPlace),DataW.trod enc P W 0 (fun _=>true) true fuel t cs=some y->(∀n∈y.1.weights P t,n<=reachBytes)->∃x:u.den,Rd (JC W) W u x cs/\Bd u x
 | .fs o l,u=> ∀(fuel:Nat) (cs:pW) (xs:List (DataW H×List MemPlace)),cs.length=o+u.cells->xs.length=l.length->(∀(i:Nat) (f:Field),l[i]? =some f->DataW.trod enc P W 0 (fun _=>true) true fuel f.type ((cs.drop f.offset).take (P.cellsOf f.type))=xs[i]?)->(∀n∈DataW.weightsEach P (l.map (·.type)) (xs.map (·.1)),n<=reachBytes)->∃x:u.den,Rd (JC W) W u x (cs.drop o)/\Bd u x
theorem aC9 {e:TypeId}{u:Ty}{a:Addr}{len cap:Nat}(hc:P.cellsOf e=u.cells) (hpos:0<u.cells) (hcap:len<=cap)
  (each: ∀i,i<len->∃(cs:pW) (x:u.den),W.cells? 0 (a.add (i*u.cells)) u.cells=some cs/\Rd (JC W) W u x cs/\Bd u x):
  ∃l:List u.den,l.length=len/\Rd (JC W) W (.list u) l [.slice (some a) len cap]/\∀x∈l,Bd u x:=by
 have build: ∀k,k<=len->∃l:List u.den,l.length=k/\∀i x,l[i]? =some x->∃cs:pW,W.cells? 0 (a.add (i*u.cells)) u.cells=some cs/\Rd (JC W) W u x cs/\Bd u x:=by
  intro k
  induction k with
  |zero=>intro _;exact⟨[],rfl,fun i x h=>by simp at h⟩
  |succ k ih=>
   intro hk;obtain⟨l,h1,h2⟩:=ih pP;obtain⟨cs,x,h3,h4⟩:=each k pP;refine⟨l++[x],by simp [h1],fun i y hy=>?_⟩;rw[List.getElem?_append] at hy;split at hy
   .exact h2 i y hy
   rename_i hi;obtain⟨j,hj⟩: ∃j,i=l.length+j:=⟨i-l.length,pP⟩;subst hj;rw[aGo] at hy;cases j with
   |zero=>
    simp only[aF8,aFy] at hy;subst hy;exact⟨cs,by rw[aGK,h1];exact h3,h4⟩
   |succ j=>simp at hy
 obtain⟨l,hll,hle⟩:=build len (aFW _);refine⟨l,hll,?_,fun x hx=>?_⟩
 .subst hll;by_cases hl0:l=[]
  .subst hl0;exact⟨some a,cap,rfl,hcap,.inl rfl⟩
  obtain⟨b,off,spot⟩:=a;have hlp:0<l.length:=aGH.2 hl0;have hspot:spot=none:=by
   obtain⟨cs,x,h3,_⟩:=each 0 hlp;have h4:=(World.cells?_some h3).2.2 0 hpos;have hlen0:=(World.cells?_some h3).2.1;rw[aFG pP] at h4;simpa[Addr.add] using World.cell?_spot h4
  subst hspot;refine⟨_,cap,rfl,hcap,.inr ⟨b,off,rfl,a3I fun i x hx=>?_⟩⟩;obtain⟨cs,h3,h4,_⟩:=hle i x hx;obtain⟨_,h5,h6⟩:=World.cells?_some h3;have hcell: ∀j v,cs[j]? =some v->W.cell? ⟨b,off+i*u.cells+j,none⟩=some v:=by
   intro j v hv;have hj:j<u.cells:=by have:=(aFP.1 hv).1;omega
   have:=h6 j hj;rw[hv] at this;rw[Addr.add_lit,Addr.add_lit] at this;exact this
  refine⟨cs,h5,hcell,fun j hj=>?_,h4⟩;exact Vc.RO (hcell 0 _ (aFG pP))
 obtain⟨i,hi,he⟩:=aGW hx;obtain⟨cs,h3,h4,h5⟩:=hle i x (by rw[aFG hi,he]);exact h5
theorem aDa {ix:Iz}{u:Ty}(h:zH P ix u):aC8 enc P W ix u:=by
 induction h with
 |bool ht=>
  intro fuel cs y hy _;obtain⟨b,rfl,_⟩:=DataW.trod_bool ht hy;exact⟨b,rfl,trivial⟩
 |int ht=>
  intro fuel cs y hy _;obtain⟨n,rfl,_,hw⟩:=DataW.trod_int ht hy;exact⟨n,rfl,hw⟩
 |str ht=>
  intro fuel cs y hy hw;obtain⟨s,rfl,rfl,_⟩:=DataW.trod_string ht hy;refine⟨s.data.toList,by show [Value.string s]=[Value.string ⟨s.data.toList.toArray⟩];rw[aG6],?_⟩;exact hw _ (by simp [DataW.weights])
 | @list t e u ht hc hpos hb _ ih=>
  intro fuel cs y hy hw;rcases DataW.trod_slice ht hy with⟨rfl,_⟩ |⟨a,len,cap,elems,rest,n,_,rfl,rfl,_,hl,_,hlen,hall,_,_⟩
  .exact⟨[],⟨none,0,rfl,aFW _,.inl rfl⟩,by simp,fun x hx=>by cases hx⟩
  .have hws:DataW.weights P t (.slice (elems.map (·.1)) (rest.map (·.1)))=((elems.map (·.1)).length+(rest.map (·.1)).length)*P.bytesOf e::(DataW.weightsAll P e (elems.map (·.1))++DataW.weightsAll P e (rest.map (·.1))):=by
    simp [DataW.weights,ht]
   rw[hws] at hw;have hn:=hw _ aFT;obtain⟨l,h1,h2,h3⟩:=aC9 (W:=W) (a:=a) (cap:=cap) hc hpos hl fun i hi=>by
    have h1:=hall i hi;rw[hc,aFG pP,Option.bind_eq_some_iff] at h1;obtain⟨cs,h2,h3⟩:=h1;obtain⟨x,hx⟩:=ih n cs _ h3 fun m hm=>hw m (by
     refine aFK _ (aGl.2 (.inl (a3J (i:=i) ?_ m hm)));rw[List.getElem?_map,aFG pP];rfl)
    exact⟨cs,x,h2,hx⟩
   refine⟨l,h2,?_,h3⟩;have:elems.length<=(elems.length+rest.length)*P.bytesOf e:=by
    calc elems.length<=(elems.length+rest.length)*1:=by omega
     _<=_:=Nat.mul_le_mul_left _ hb
   simp only[aG0] at hn;have hr:reachBytes=140737488351232:=rfl;show l.length<=_;omega
 |struct hrow ht hcl _ ih=>
  intro fuel cs y hy hw;obtain⟨xs,n,rfl,rfl,hl,hlen,hf⟩:=DataW.trod_struct ht hy;have:=ih n cs xs (by rw[hl,hcl];omega) (by rw[hlen];simp) (fun i f hi=>hf i f (by simpa using hi)) fun m hm=>hw m (by simpa[DataW.weights,ht] using hm);rwa [aGJ] at this
 |nil=>
  intro fuel cs xs hl _ _ _;refine⟨(),?_,trivial⟩;show cs.drop _=[];exact List.drop_of_length_le (by simp [Ty.cells] at hl;omega)
 | @cons o f r a b ho hc _ _ iha ihb=>
  intro fuel cs xs hl hx hf hw;cases xs with
  |nil=>simp at hx
  |cons x0 xs=>
   have h0:=hf 0 f rfl;rw[hc,ho] at h0;obtain⟨xa,ra,ba⟩:=iha fuel _ x0 h0 fun m hm=>hw m (by simp only[aGB,DataW.weightsEach,aGl];exact .inl hm);obtain⟨xb,rb,bb⟩:=ihb fuel cs xs (by simp only[Ty.cells] at hl;omega) (by simpa using hx) (fun i f' hi=>by have:=hf (i+1) f' (by simpa using hi);simpa using this) fun m hm=>hw m (by simp only[aGB,DataW.weightsEach,aGl];exact .inr hm);refine⟨(xa,xb),⟨_,_,(aGZ a.cells (cs.drop o)).symm,ra,?_⟩,ba,bb⟩;rw[aHI];exact rb
theorem a3K {t:TypeId}{u:Ty}{base:Nat}{v:q9}{d:DataW H}{ps:List MemPlace}(h:zH P (.ty t) u) (hok:Value.okWide P W .any base t v) (hT:DataW.Trod enc P W 0 (fun _=>true) true t v d ps) (hw: ∀n∈d.weights P t,n<=reachBytes): ∃x:u.den,tD (JC W) W u x v/\Bd u x:=by
 obtain⟨fuel,hf⟩:=hT;obtain⟨x,hx,hb⟩:=aDa (enc:=enc) (W:=W) h fuel _ _ hf hw;refine⟨x,?_,hb⟩;cases h with
 |bool ht=>obtain⟨b,rfl⟩:=Go.WideShapes.okWide_bool ht hok;exact .inr ⟨rfl,hx⟩
 |int ht=>obtain⟨b,rfl⟩:=Go.WideShapes.okWide_int ht hok;exact .inr ⟨rfl,hx⟩
 |str ht=>obtain⟨b,rfl⟩:=Go.WideShapes.okWide_string ht hok;exact .inr ⟨rfl,hx⟩
 |list ht=>obtain⟨a,l,c,rfl⟩:=Go.WideShapes.okWide_slice ht hok;exact .inr ⟨rfl,hx⟩
 |struct hrow ht=>obtain⟨cs,rfl,_⟩:=Go.WideShapes.okWide_struct ht hok;exact .inl ⟨hrow,cs.toList,by rw[aG6],hx⟩
end
end Go.Proofs.YtcpbaddnmpeipaaGreatDoor
namespace Go.Proofs.YtcpbaddnmpeipaaGreatDoor
open Vc
open Go.ChangeShapes Go.WideShapes Go.ChangeAt Go.RowKit
theorem LK:zH Tryz.prog (.ty 9) .str:= .str Tryz.underlying9
theorem Ja:zH Tryz.prog (.ty 23) (.list .str):= .list Tryz.underlying23 qC pQ (aGc qC) LK
theorem aDb:zH Tryz.prog (.ty 110) (.pair .str (.pair .str .unit)):=by
 refine .struct rfl Tryz.underlying110 qC ?_;exact .cons rfl qC LK (.cons rfl qC LK .nil)
theorem a3L:zH Tryz.prog (.ty 24) (.list (.pair .str (.pair .str .unit))):= .list Tryz.underlying24 qC pQ (aGc qC) aDb
theorem aDc:zH Tryz.prog (.ty 45) sR:=by
 refine .struct rfl Tryz.underlying45 qC ?_;exact .cons rfl qC LK (.cons rfl qC LK (.cons rfl qC LK (.cons rfl qC Ja (.cons rfl qC Ja (.cons rfl qC (.int Tryz.underlying3) (.cons rfl qC a3L .nil))))))
theorem aDd:zH Tryz.prog (.ty 25) (.list sR):= .list Tryz.underlying25 qC pQ (aGc qC) aDc
theorem aDe:zH Tryz.prog (.ty 27) wY:=by
 refine .struct rfl Tryz.underlying27 qC ?_;exact .cons rfl qC LK (.cons rfl qC Ja (.cons rfl qC a3L (.cons rfl qC aDd .nil)))
theorem aDf {x:tT}(h:Bd sR x):Ie x:=by
 obtain⟨h1,h2,h3,⟨h4,k4⟩,⟨h5,k5⟩,_,⟨h7,k7⟩,_⟩:=h;exact⟨h1,h2,h3,⟨h4,k4⟩,⟨h5,k5⟩,h7,fun y hy=>⟨(k7 y hy).1,(k7 y hy).2.1⟩⟩
theorem aDg {c:C4}(h:Bd wY c):av c:=by
 obtain⟨h1,⟨h2,k2⟩,⟨h3,k3⟩,⟨h4,k4⟩,_⟩:=h;exact⟨h1,⟨h2,k2⟩,⟨h3,fun y hy=>⟨(k3 y hy).1,(k3 y hy).2.1⟩⟩,fun x hx=>aDf (k4 x hx)⟩
theorem aDh {W:q8}(hT:FX W) (v:q9) (c:C4) (u:q9) (s:pL) (hv:tD (JC W) W wY c v) (hu:tD (JC W) W .str s u) (hB:Bd wY c):
  Calls Tryz.prog 7 #[v,u] W fun e W'=>e= .returned (.bool true)/\Below W.heap.size W W':=by
 have hC:Gj (TQ c s) ZO=some (QD c s):=a9F _ _;have ht:=aCV (aDg hB) s;refine(a9H.1.2 (JC W) W (TQ c s) [v,u] [] _ ⟨(fun i b h=>by cases h),(fun i j bi bj b o _ h=>by cases h),fun b o h=>h,hT,(fun i blk b o h=>by cases h)⟩ ⟨v,[u],rfl,⟨hv,trivial⟩,u,[],rfl,⟨hu,trivial⟩,rfl⟩ hC ?_).mono fun e W' ⟨v,g',he,r⟩=>?_
 .intro p hp;have:p=((O0 c s).isSome=true):=by simpa[QD] using hp
  rw[this,ht];rfl
 have hv:v= .bool true:=by
  have h1:=r.ret;unfold QD at h1;rw[ht] at h1;exact vT h1.1
 subst hv;exact⟨he,⟨r.fr.os,r.fr.tape,r.fr.output,r.fr.size,fun k hk=>r.fr.blk k hk (fun o ⟨i,blk,hi,_⟩=>by cases hi)⟩⟩
end Go.Proofs.YtcpbaddnmpeipaaGreatDoor
namespace Go.Proofs.YtcpbaddnmpeipaaGreatDoor
open Go.ChangeShapes Go.WideShapes Go.ChangeAt Go.RowKit Go.Lib
theorem aDi:(Rows.blocksInverseRow.inPlace==Tryz.prog.inPlace 7)=true:=by kernel_rfl
theorem aDj:(Rows.blocksInverseRow.unfollowed==Tryz.prog.unfollowed 7)=true:=by kernel_rfl
theorem aDk:(Rows.blocksInverseRow.recurses==Tryz.prog.recurses 7)=true:=by kernel_rfl
theorem aDl:(Rows.blocksInverseRow.named==Tryz.prog.varsNamed 7)=true:=by kernel_rfl
theorem aDm:joinedFacts Tryz.prog 7 Tryz.f7 Rows.blocksInverseSpec Rows.blocksInverseRow=true:=by
 unfold joinedFacts;rw[aDi,aDj,aDk,aDl]
 kernel_rfl
end Go.Proofs.YtcpbaddnmpeipaaGreatDoor
