import Derived.Laws.BitsLemmas
import Derived.Lib.Index
import Derived.Lib.IndexAny
import Derived.Lib.MapLaws
import Derived.Lib.TrimAscii
import Derived.Lib.TrimUEq
import Derived.Lib.ValidLaws
import Derived.Sort.Walk0
import Derived.Test.YtcpbaddnmpeipaaGreatDoorX04
set_option linter.all false
set_option maxRecDepth 100000
set_option maxHeartbeats 4000000
namespace Go.Proofs.YtcpbaddnmpeipaaGreatDoor
open Vc List Lib
theorem vB {σ ρ:Type}(f:σ->Option (σ⊕ρ)) (x:σ):sA f x=(f x).bind fun w=>match w with
    | .inl y=>sA f y
    | .inr r=>some r:=by
  cases h:f x with
  | none=>
    cases z:sA f x with
    |none=>rfl
    | some r=>
      obtain⟨n,j⟩:=Y3 z;cases n with
      |zero=>cases j
      |succ n=>unfold Vc.iter at j;rw[h] at j;cases j
  | some w=>
    cases w with
    |inl y=>exact KA h
    |inr r=>exact zZ h
theorem EQ {t:Ty}{l:List t.den}{i:Nat}(h:i<l.length):qV t l (i:Int)=l[i]:=by
  unfold qV;rw[aGI,aGb,aFW h];rfl
theorem LD {l:pP}{i:Nat}(h:i<l.length):sK l (i:Int)=(l[i].toNat:Int):=by
  unfold sK;rw[aGI,aGb,aFW h];rfl
def zI {β:Type}(f:Nat->β) (b:β):qB->β
  |some k=>f k
  |none=>b
theorem Gn {α ρ:Type}{f:Int->Option (Int⊕(Unit⊕ρ))}{l:List α}(p:α->Bool) (g:Nat->ρ)
    (hf: ∀(i:Nat) (h:i<l.length),f i=if p l[i]=true then some (.inr (.inr (g i))) else some (.inl (i+1)))
    (D:f l.length=some (.inr (.inl ()))): ∀(n j:Nat),j+n=l.length->sA f j=some (zI (fun k=> .inr (g (j+k))) (.inl ()) ((l.drop j).findIdx? p))
  | 0,j,E=>by
    have:j=l.length:=by omega
    subst this;rw[aGN,vB,D];rfl
  | n+1,j,E=>by
    have z:j<l.length:=by omega
    rw[vB,hf j z,aGs z,aHs];by_cases hp:p l[j]=true
    . rw[aFP hp,aFP hp]
      rfl
    rw[aFQ hp,aFQ hp]
    show sA f ((j:Int)+1)=_;have:=Gn p g hf D n (j+1) pT;rw[show ((j:Int)+1)=((j+1:Nat):Int) by omega,this];cases(l.drop (j+1)).findIdx? p with
    |none=>rfl
    | some k=>
      show some (Sum.inr (g (j+1+k)))=some (Sum.inr (g (j+(k+1))));rw[show j+1+k=j+(k+1) by omega]
theorem LE {α ρ:Type}{f:Int->Option (Int⊕(Unit⊕ρ))}{l:List α}(p:α->Bool) (g:Nat->ρ)
    (hf: ∀(i:Nat) (h:i<l.length),f i=if p l[i]=true then some (.inr (.inr (g i))) else some (.inl (i+1)))
    (j:f l.length=some (.inr (.inl ()))):sA f 0=some (zI (fun k=> .inr (g k)) (.inl ()) (l.findIdx? p)):=by
  have:=Gn p g hf j l.length 0 pT;simpa using this
theorem a0V {s:pP}{i:Nat}(h:i<s.length) (z:s[i].toNat<128):xW s i=(s[i].toNat:Int)/\BM s i=i+1:=by
  have j:=decodeL_drop ⟨s.toArray⟩ i
  have D:(⟨s.toArray⟩:ByteArray).data.toList.drop i=s[i]::s.drop (i+1):=by
    show s.drop i=_;rw[aGs h]
  rw[D,decodeL_ascii _ _ z] at j;unfold xW BM gh;rw[<-j,aFP h];exact⟨rfl,rfl⟩
theorem a9O {n b0 b1 b2 b3:Nat}(h:128<=b0):128<=(decodeN n b0 b1 b2 b3).1:=by
  unfold decodeN
  repeat' split
  all_goals first|omega|(dsimp only;omega)
theorem a0W {s:pP}{i:Nat}(h:i<s.length) (j:128<=s[i].toNat):128<=xW s i:=by
  unfold xW;rw[decode_at]
  have:(⟨s.toArray⟩:ByteArray).get! i=s[i]:=by
    show s.toArray[i]! =_;simp [h]
  rw[this];exact Int.ofNat_le.2 (a9O j)
theorem a0X {ρ:Type}{f:Nat->Option (Nat⊕(Unit⊕ρ))}{s:pP}(p:Int->Bool) (g:Nat->ρ) (hb: ∀c,128<=c->p c=true)
    (hf: ∀(i:Nat) (h:i<s.length),f i=if p (xW s i)=true then some (.inr (.inr (g i))) else some (.inl (BM s i)))
    (D:f s.length=some (.inr (.inl ()))): ∀(n j:Nat),j+n=s.length->sA f j=some (zI (fun k=> .inr (g (j+k))) (.inl ()) ((s.drop j).findIdx? (fun b=>p b.toNat)))
  | 0,j,E=>by
    have:j=s.length:=by omega
    subst this;rw[aGN,vB,D];rfl
  | n+1,j,E=>by
    have z:j<s.length:=by omega
    rw[vB,hf j z,aGs z,aHs];by_cases F:s[j].toNat<128
    . obtain⟨e1,e2⟩:=a0V z F
      rw[e1,e2];by_cases hp:p (s[j].toNat:Int)=true
      . rw[aFP hp,aFP hp]
        rfl
      rw[aFQ hp,aFQ hp]
      show sA f (j+1)=_;rw[a0X p g hb hf D n (j+1) pT];cases(s.drop (j+1)).findIdx? (fun b=>p b.toNat) with
      |none=>rfl
      | some k=>
        show some (Sum.inr (g (j+1+k)))=some (Sum.inr (g (j+(k+1))));rw[show j+1+k=j+(k+1) by omega]
    rw[aFP (hb _ (a0W z pT)),aFP (hb _ pT)]
    rfl
theorem a9P {ρ:Type}{f:Nat->Option (Nat⊕(Unit⊕ρ))}{s:pP}(p:Int->Bool) (g:Nat->ρ) (hb: ∀c,128<=c->p c=true)
    (hf: ∀(i:Nat) (h:i<s.length),f i=if p (xW s i)=true then some (.inr (.inr (g i))) else some (.inl (BM s i)))
    (j:f s.length=some (.inr (.inl ()))):sA f 0=some (zI (fun k=> .inr (g k)) (.inl ()) (s.findIdx? (fun b=>p b.toNat))):=by
  have:=a0X p g hb hf j s.length 0 pT;simpa using this
def sE {α:Type}(l:List α):Prop:=l.length<=4000000000
theorem w4 {i:Nat}(h:i<=4000000000):qR ((i:Int)+1):=by unfold qR;omega
theorem tQ {i n:Nat}(h:i<n):0<=(i:Int)/\(i:Int)<(n:Int):=⟨pT,pT⟩
theorem vI {i n:Nat}(h:i<n):decide ((i:Int)<(n:Int))=true:=by simpa using h
theorem xD (n:Nat): ¬decide ((n:Int)<(n:Int))=true:=by simp
theorem a0Y {α:Type}{p:α->Bool}: ∀{l:List α},(l.findIdx? p).isSome=l.any p
  |[]=>rfl
  | x::l=>by
    rw[aHs,any_cons];cases p x with
    |true=>rfl
    |false=>simp [a0Y (l:=l)]
theorem QJ {α β:Type}{p:α->Bool}{l:List α}{f:Nat->β}{b:β}:zI f b (l.findIdx? p)=if l.any p=true then f ((l.findIdx? p).getD 0) else b:=by
  rw[<-a0Y];cases l.findIdx? p with
  |none=>rfl
  |some k=>rfl
def U5 (c:Int):Bool:=(((!((decide ((97:Int)<=c))&&(decide (c<=(122:Int)))))&&(!((decide ((48:Int)<=c))&&(decide (c<=(57:Int))))))&&(!decide (c=(45:Int))))&&((decide (c<(65:Int)))||(decide ((90:Int)<c)))
def yC (s:pP):Bool:= !(s.any fun b=>U5 b.toNat)&&((decide ((1:Int)<=(s.length:Int)))&&(decide ((s.length:Int)<=(40:Int))))
def ZZ (c:Int):Bool:=((((decide (c<(97:Int)))||(decide ((122:Int)<c)))&&((decide (c<(65:Int)))||(decide ((90:Int)<c))))&&((decide (c<(48:Int)))||(decide ((57:Int)<c))))&&(!decide (c=(45:Int)))
theorem a9Q (c:Int):ZZ c=U5 c:=by
  unfold ZZ U5;rw[aHI];simp;omega
theorem Gp (s:pP):DK s=some (yC s):=by
  have h:=a9P (f:=T0 s) (s:=s) (fun c=>ZZ c) (fun _=>false) (fun c h=>by unfold ZZ;simp;omega) (fun i h=>by
    unfold T0;rw[aFP (by simpa using h),aFP (by simpa using h)];rfl) (by
    unfold T0;rw[aFQ pV])
  unfold DK;rw[h,QJ];simp only[a9Q];unfold yC;cases s.any fun b=>U5 b.toNat<;>rfl
def yZ (c:Int):Bool:=((((!((decide ((97:Int)<=c))&&(decide (c<=(122:Int)))))&&(!((decide ((48:Int)<=c))&&(decide (c<=(57:Int))))))&&(!decide (c=(45:Int))))&&(!decide (c=(95:Int))))&&(!decide (c=(46:Int)))
def A7 (c:Int):Bool:=(decide ((97:Int)<=c))&&(decide (c<=(122:Int)))
def v7:pP->Bool
  |[]=>false
  |b::t=>(!decide (40<t.length+1)&&A7 b.toNat)&& !(t.any fun b=>yZ b.toNat)
theorem a0Z (s:pP): ∀(n j:Nat),j+n=s.length->sA (PR s) j=some (if (s.drop j).any (fun b=>yZ b.toNat)=true\/(j=0/\s≠[]/\A7 (s.getD 0 0).toNat=false) then .inr false else .inl ())
  | 0,j,K=>by
    have:j=s.length:=by omega
    subst this;rw[aGN,vB];unfold PR;rw[aFQ pV];by_cases h0:s=[]
    .subst h0;simp
    . have:s.length≠0:=by simpa using h0
      simp [this]
  | n+1,j,K=>by
    have z:j<s.length:=by omega
    have ih:=a0Z s n (j+1) pT;rw[vB,aGs z,any_cons]
    have E:PR s j=if (yZ (s[j].toNat:Int)=true\/(j=0/\A7 (s[j].toNat:Int)=false)) then some (.inr (.inr false)) else some (.inl (j+1)):=by
      unfold PR;rw[aFP (by simpa using z),aFP (by simpa using z),aFP (by simpa using z)];by_cases M:s[j].toNat<128
      . obtain⟨e1,e2⟩:=a0V z M
        rw[e1,e2];by_cases D:A7 (s[j].toNat:Int)=true
        . rw[aFP (by unfold A7 at D;exact D),aFQ]
          unfold A7 at D;simp only[aF0,aFY] at D;simp [yZ,A7];omega
        have G:A7 (s[j].toNat:Int)=false:=by simpa using D
        rw[aFQ (by unfold A7 at D;exact D)]
        have O: ¬(97<=(s[j].toNat:Int)/\(s[j].toNat:Int)<=122):=by
          unfold A7 at D;simpa using D
        by_cases h3:yZ (s[j].toNat:Int)=true\/j=0
        . rw[aFQ,aFP]
          . rcases h3 with h3|h3
            .exact .inl h3
            exact .inr ⟨h3,G⟩
          simp [yZ] at h3|-
          omega
        rw[aFP,aFQ]
        . intro h
          rcases h with h|⟨h,_⟩
          .exact h3 (.inl h)
          exact h3 (.inr h)
        simp [yZ] at h3|-
        omega
      have hb:=a0W z pT
      rw[aFQ pW,aFQ pW,aFP (.inl (by simp [yZ];omega))]
    rw[E];have I:s.getD 0 0=s[0]'pT:=by simp [aGb,aFW (show 0<s.length by omega)]
    have hne:s≠[]:=by intro h;subst h;simp at z
    by_cases hp:yZ (s[j].toNat:Int)=true\/(j=0/\A7 (s[j].toNat:Int)=false)
    . rw[aFP hp,aFP]
      .rfl
      rcases hp with hp|⟨rfl,hp⟩
      .left;simp [hp]
      right;exact⟨rfl,hne,by rw[I];exact hp⟩
    rw[aFQ hp]
    show sA _ (j+1)=_;rw[ih]
    have F:yZ (s[j].toNat:Int)=false:=by
      cases h:yZ (s[j].toNat:Int) with
      |true=>exact absurd (.inl h) hp
      |false=>rfl
    simp only[F,Bool.false_or];congr 2;apply propext;constructor
    . rintro(h|⟨h,_⟩)
      .exact .inl h
      omega
    rintro(h|⟨rfl,_,h⟩)
    .exact .inl h
    rw[I] at h
    exact absurd (.inr ⟨rfl,h⟩) hp
theorem aa (s:pP):DL s=some (v7 s):=by
  have h:=a0Z s s.length 0 pT;unfold DL;rw[h,aG4];cases s with
  |nil=>simp [v7,uB]
  | cons b t=>
    simp only[any_cons,getD_cons_zero,ne_eq,reduceCtorEq,not_false_eq_true,true_and,v7];cases hs:A7 b.toNat with
    |false=>simp [uB]
    | true=>
      have j:yZ b.toNat=false:=by
        unfold A7 at hs;simp only[aF0,aFY] at hs;simp [yZ];omega
      simp only[j,Bool.false_or];cases t.any (fun b=>yZ b.toNat) with
      |true=>simp [uB]
      | false=>
        simp only[aHh,false_or,and_false,aHW];show some (decide ((1:Int)<=((b::t).length:Int))&&decide (((b::t).length:Int)<=40))=_;congr 1;rw[aHI];simp only[aFV,aF0,aFY,aGj,aGu,Bool.not_false,and_true];omega
theorem U6 {β:Type}{f:Nat->β}{b:β}{o:qB}:uB (some (zI (fun k=> .inr (f k)) (.inl ()) o)) (fun _=>some b)=some (zI f b o):=by
  cases o<;>rfl
theorem a9R (l:pQ) (s:pP) (hl:sE l):FI l s=some (zI (fun k=>(k:Int)) (-1) (l.findIdx? fun x=>decide (s=x))):=by
  unfold sE at hl
  have h:=LE (f:=TA l s) (l:=l) (fun x=>decide (s=x)) (fun k=>(k:Int)) (fun i h=>by
    unfold TA;rw[aFP (vI h),aFP (tQ h),EQ (t:= .str) h,aFP (w4 pT)]) (by
    unfold TA;rw[aFQ (xD _)])
  unfold FI;rw[h,U6]
theorem a00 {α:Type}{p:α->Bool}{l:List α}:decide ((0:Int)<=zI (fun k=>(k:Int)) (-1) (l.findIdx? p))=l.any p:=by
  rw[QJ];cases l.any p
  .rfl
  simp only[aHp,aFY];omega
def wR:pQ:=[[110,101,119],[102,117,122,122,121],[116,114,97,110,115,108,97,116,101,100],[114,101,118,105,101,119,101,100],[111,98,115,111,108,101,116,101]]
def A8 (s:pP):Int:=zI (fun k=>(k:Int)) (-1) (wR.findIdx? fun x=>decide (x=s))
abbrev t6:=pP×pP×Unit
abbrev tF:Ty:= .pair .str (.pair .str .unit)
def z6 (l:List t6) (n:pP):qB:=l.findIdx? fun x=>decide (x.1=n)
def JB (l:List t6) (n:pP):pP×Bool:=zI (fun k=>((l.getD k ([],[],())).2.1,true)) ([],false) (z6 l n)
theorem a9S (l:List t6) (n:pP):(JB l n).2=l.any fun x=>decide (x.1=n):=by
  unfold JB z6;rw[QJ];cases l.any fun x=>decide (x.1=n)<;>rfl
theorem a9T (l:List t6) (n:pP) (hl:sE l):NT l n=some (zI (fun k=>(k:Int)) (-1) (z6 l n)):=by
  unfold sE at hl
  have h:=LE (f:=TE l n) (l:=l) (fun x=>decide (x.1=n)) (fun k=>(k:Int)) (fun i h=>by
    unfold TE;rw[aFP (vI h),aFP (tQ h),EQ (t:=tF) h,aFP (w4 pT)]) (by
    unfold TE;rw[aFQ (xD _)])
  unfold NT PY;rw[h,U6];rfl
theorem ac {l:List t6}{n:pP}{k:Nat}(h:z6 l n=some k):k<l.length:=by
  unfold z6 at h;exact(aGW.1 h).1
theorem a9U (l:List t6) (n:pP) (hl:sE l):L7 l n=some (JB l n):=by
  unfold L7;rw[a9T l n hl];unfold JB;cases h:z6 l n with
  |none=>rfl
  | some k=>
    have j:=ac h;simp only[zI,aFT];rw[aFQ pV,aFP (tQ j),EQ (t:=tF) j];simp only[zI,aGb,aFW j];rfl
def v8 (l:List t6) (n:pP):Nat:=(l.findIdx? fun x=> !(Op.bytesLess x.1 n||decide (x.1=n))).getD l.length
def yD (l:List t6) (n v:pP):List t6:=zI (fun k=>l.set k (n,v,())) (l.take (v8 l n)++[(n,v,())]++l.drop (v8 l n)) (z6 l n)
theorem a9V (l:List t6) (n:pP):v8 l n<=l.length:=by
  unfold v8;cases h:l.findIdx? fun x=> !(Op.bytesLess x.1 n||decide (x.1=n)) with
  |none=>exact aGc _
  |some k=>exact Nat.le_of_lt (aGW.1 h).1
theorem a9W {l:List t6}{n:pP}{k:Nat}(h:z6 l n=some k) (j:k<l.length):l[k].1=n:=by
  unfold z6 at h;have:=(aGW.1 h).2.1;simpa using this
theorem a01 {α:Type}{l:List α}{k:Nat}:sG l 0 (k:Int)=l.take k:=by unfold sG;simp
theorem O8 {α:Type}{l:List α}{k:Nat}:sG l (k:Int) (l.length:Int)=l.drop k:=by
  unfold sG;rw[aGI,aGI,take_of_length_le];rw[aGp];exact aGc _
def BB (n:Int):Prop:=0<=n/\n<=1114111/\(n<55296\/57343<n)
def z7 (n:Int):Bool:=(((decide ((0:Int)<=n))&&(decide (n<=(1114111:Int))))&&((decide (n<(55296:Int)))||(decide ((57343:Int)<n))))
theorem LF (n:Int):z7 n=true↔BB n:=by
  unfold z7 BB;simp;omega
theorem ae {n:Int}(h0:0<=n) (h:n<=127):encodeRune n=tO [n]:=by
  unfold encodeRune;rw[encodeRuneZ_one h0 h];rfl
theorem af {n:Int}(h0:128<=n) (h:n<=2047):encodeRune n=tO [192+n/64,128+n%64]:=by
  unfold encodeRune;rw[encodeRuneZ_two h0 h];rfl
theorem Gq {n:Int}(h:(2048<=n/\n<55296)\/(57343<n/\n<=65535)):encodeRune n=tO [224+n/4096,128+n/64%64,128+n%64]:=by
  unfold encodeRune;rw[encodeRuneZ_three h];rfl
theorem a02 {n:Int}(h0:65536<=n) (h:n<=1114111):encodeRune n=tO [240+n/262144,128+n/4096%64,128+n/64%64,128+n%64]:=by
  unfold encodeRune;rw[encodeRuneZ_four h0 h];rfl
theorem a03 {n:Int}(h:BB n):EM n=some (encodeRune n):=by
  obtain⟨h0,j,hs⟩:=h;have w1:IntKind.i64.wrap (n/64)=n/64:=by rw[aHE];omega
  have w2:IntKind.i64.wrap (n/4096)=n/4096:=by rw[aHE];omega
  have w3:IntKind.i64.wrap (n/262144)=n/262144:=by rw[aHE];omega
  have m1:Int.tmod n 64=n%64:=aHK h0;have m2:Int.tmod (n/64) 64=n/64%64:=aHK pT;have m3:Int.tmod (n/4096) 64=n/4096%64:=aHK pT;unfold EM;simp only[Int.tdiv_eq_ediv_of_nonneg h0,w1,w2,w3,m1,m2,m3,aHT];by_cases c1:n<128
  .rw[aFP (by simpa using c1),ae h0 pT,show n%256=n by omega]
  rw[aFQ (by simpa using c1)]
  by_cases c2:n<2048
  .rw[aFP (by simpa using c2),aFP (by unfold qR;omega),aFP (by unfold qR;omega),af pT pT,show (192+n/64) %256=192+n/64 by omega,show (128+n%64) %256=128+n%64 by omega]
  rw[aFQ (by simpa using c2)]
  by_cases c3:n<65536
  .rw[aFP (by simpa using c3),aFP (by unfold qR;omega),aFP (by unfold qR;omega),aFP (by unfold qR;omega),Gq pT,show (224+n/4096) %256=224+n/4096 by omega,show (128+n/64%64) %256=128+n/64%64 by omega,show (128+n%64) %256=128+n%64 by omega]
  rw[aFQ (by simpa using c3),aFP (by unfold qR;omega),aFP (by unfold qR;omega),aFP (by unfold qR;omega),aFP (by unfold qR;omega),a02 pT pT,show (240+n/262144) %256=240+n/262144 by omega,show (128+n/4096%64) %256=128+n/4096%64 by omega,show (128+n/64%64) %256=128+n/64%64 by omega,show (128+n%64) %256=128+n%64 by omega]
theorem Gr {n:Int}{k:Int}{j:Nat}(z:k.toNat=j) (h:j<=32):zA .i32 n k=n/2^j:=by
  unfold zA;rw[z,show min j IntKind.i32.bits=j from Nat.min_eq_left h,Int.fdiv_eq_ediv_of_nonneg];exact Int.pow_nonneg pU
theorem a9X {n:Int}(p:pZ) (h:BB n) (hp:sE p):L4 p n=some (p++encodeRuneZ n):=by
  obtain⟨h0,D,hs⟩:=h;unfold sE at hp;have u:IntKind.u32.wrap n=n:=by rw[IntKind.wrap_u32];omega
  have s6:zA .i32 n 6=n/64:=Gr (j:=6) rfl pU;have s12:zA .i32 n 12=n/4096:=Gr (j:=12) rfl pU;have s18:zA .i32 n 18=n/262144:=Gr (j:=18) rfl pU
  have b0:bits .or .u8 128 (bits .and .u8 (n%256) 63)=128+n%64:=by
    rw[u8_and63 (x:=n%256) pT pT,show n%256%64=n%64 by omega,u8_or128 (y:=n%64) pT pT]
  have b1:bits .or .u8 128 (bits .and .u8 (n/64%256) 63)=128+n/64%64:=by
    rw[u8_and63 (x:=n/64%256) pT pT,show n/64%256%64=n/64%64 by omega,u8_or128 (y:=n/64%64) pT pT]
  have b2:bits .or .u8 128 (bits .and .u8 (n/4096%256) 63)=128+n/4096%64:=by
    rw[u8_and63 (x:=n/4096%256) pT pT,show n/4096%256%64=n/4096%64 by omega,u8_or128 (y:=n/4096%64) pT pT]
  unfold L4;rw[u];by_cases c1:n<=127
  .rw[aFP (by simpa using c1),aFP pW,encodeRuneZ_one h0 c1,aHT,show n%256=n by omega]
  rw[aFQ (by simpa using c1)]
  unfold NI;simp only[u,s6,s12,s18,aHT,b0,b1,b2];by_cases c2:n<=2047
  . rw[aFP (by simpa using c2),aFP pW,encodeRuneZ_two pT c2,show n/64%256=n/64 by omega,u8_or192 (y:=n/64) pT pT]
    rfl
  rw[aFQ (by simpa using c2)]
  by_cases c3:n<=65535
  . have z:(if decide (n<55296)=true then some (decide (n<55296)) else some ((decide (57343<n))&&(decide (n<=65535))))=some true:=by
      by_cases c:n<55296
      .rw[aFP (by simpa using c)];simp [c]
      rw[aFQ (by simpa using c)];simp;omega
    rw[z];simp only[uS,aFT];rw[aFP trivial,aFP pW,encodeRuneZ_three pT,show n/4096%256=n/4096 by omega,u8_or224 (y:=n/4096) pT pT];rfl
  have z:(if decide (n<55296)=true then some (decide (n<55296)) else some ((decide (57343<n))&&(decide (n<=65535))))=some false:=by
    rw[aFQ pW];simp;omega
  rw[z];simp only[uS,aFT];rw[aFQ pU,aFP pW,aFP pW,encodeRuneZ_four pT D,show n/262144%256=n/262144 by omega,u8_or240 (y:=n/262144) pT pT];rfl
theorem a04 (n:Int):(encodeRuneZ n).length<=4:=by
  unfold encodeRuneZ
  repeat' split
  all_goals simp
theorem a05 {n:Int}(p:pZ) (h:BB n) (hp:sE p): ∃k,H7 (p,()) n=some (k,p++encodeRuneZ n):=by
  have h4:=a04 n;unfold sE at hp;unfold H7;rw[a9X p h hp];simp only[aFT];rw[aFP (by unfold qR;simp;omega)];exact⟨_,rfl⟩
theorem a9Y (n:Int):TW [n] (0,[])=some (.inl (1,if z7 n=true then encodeRuneZ n else encodeRuneZ 65533)):=by
  unfold TW;have z:qV (.int .i64) [n] 0=n:=rfl;dsimp only;rw[aFP pV,aFP ⟨aGO _,by simp⟩];simp only[z];by_cases hs:z7 n=true
  . have h:=(LF n).1 hs
    obtain⟨k,j⟩:=a05 (n:=n) [] h (by unfold sE;simp)
    have wn:IntKind.i32.wrap n=n:=by
      obtain⟨a,b,c⟩:=h;rw[IntKind.wrap_i32];omega
    rw[aFP hs];unfold z7 at hs;rw[aFQ (by rw[hs];decide),wn,j];simp only[aFT,nil_append];rw[aFP (by unfold qR;omega)];rfl
  rw[aFQ hs]
  unfold z7 at hs;obtain⟨k,j⟩:=a05 (n:=65533) [] (by unfold BB;omega) (by unfold sE;simp);rw[aFP (by simp only[aGj] at hs|-;simpa using hs),show IntKind.i32.wrap 65533=65533 from rfl,j];simp only[aFT,nil_append];rw[aFP (by unfold qR;omega)];rfl
theorem a9Z (n:Int):LC n=some (if z7 n=true then encodeRune n else encodeRune 65533):=by
  unfold LC QA;rw[KA (a9Y n),zZ (r:=if z7 n=true then encodeRuneZ n else encodeRuneZ 65533) (by unfold TW;simp)];simp only[uS,aFT];by_cases hs:z7 n=true
  .rw[aFP hs,aFP hs];rfl
  rw[aFQ hs,aFQ hs];rfl
theorem a06 {l:pP}{i:Nat}(h:i<l.length):sK l (i:Int)=((l.getD i 0).toNat:Int):=by
  rw[LD h,aGb,aFW h];rfl
theorem a90 {s:pP}{x n:Int}{i:Nat}(h:i<s.length) (D:(i:Int)<n) (F:0<=x) (E:x<=1000000) (hi:i<=10):FF s n (x,(i:Int))=
    if (s.getD i 0).toNat/64=2 then some (.inl (64*x+(s.getD i 0).toNat-128,((i+1:Nat):Int))) else some (.inr (.inr (65533,1))):=by
  have hb:=(s.getD i 0).toNat_lt;have j:=a06 h;generalize (s.getD i 0).toNat=B at hb j|-;unfold FF;dsimp only;rw[aFP (by simpa using D),aFP (tQ h),aFP (fun _=>tQ h),j];by_cases z:B/64=2
  . rw[aFQ pW,aFP z,aFP (by unfold qR;omega),aFP (tQ h),show IntKind.i64.wrap (B:Int)=(B:Int) by rw[aHE];omega,
      aFP (by unfold qR;omega),aFP (by unfold qR;omega),aFP (by unfold qR;omega)]
    rfl
  rw[aFP pW,aFQ z]
theorem Gs {s:pP}{x n i:Int}(h:n<=i):FF s n (x,i)=some (.inr (.inl x)):=by
  unfold FF;dsimp only;rw[aFQ (by simpa using h)]
def cont (s:pP) (i:Nat):Bool:=decide ((s.getD i 0).toNat/64=2)
def zJ (s:pP) (i:Nat) (x:Int):Int:=64*x+(s.getD i 0).toNat-128
theorem Gt {s:pP}{i:Nat}{x m:Int}(h0:0<=x) (hm:x<=m) (h:cont s i=true):0<=zJ s i x/\zJ s i x<=64*m+63:=by
  have hb:=(s.getD i 0).toNat_lt;unfold cont at h;unfold zJ;simp only[aFY] at h;omega
theorem QK {s:pP}{x n:Int}{i:Nat}(h:i<s.length) (E:(i:Int)<n) (D:0<=x) (z:x<=1000000) (hi:i<=10):
    sA (FF s n) (x,(i:Int))=if cont s i=true then sA (FF s n) (zJ s i x,((i+1:Nat):Int)) else some (.inr (65533,1)):=by
  rw[vB,a90 h E D z hi];unfold cont zJ;simp only[aFY];by_cases j:(s.getD i 0).toNat/64=2
  .rw[aFP j,aFP j];rfl
  rw[aFQ j,aFQ j];rfl
theorem a91 {s:pP}{x:Int}(h:1<s.length) (j:0<=x) (z:x<=31):sA (FF s 2) (x,1)=some (if cont s 1=true then .inl (zJ s 1 x) else .inr (65533,1)):=by
  show sA _ (x,((1:Nat):Int))=_;rw[QK h pU j pT pU];by_cases c1:cont s 1=true
  .rw[aFP c1,aFP c1,zZ (Gs pU)]
  rw[aFQ c1,aFQ c1]
theorem a92 {s:pP}{x:Int}(h:2<s.length) (z:0<=x) (j:x<=15):sA (FF s 3) (x,1)=some (if (cont s 1&&cont s 2)=true then .inl (zJ s 2 (zJ s 1 x)) else .inr (65533,1)):=by
  show sA _ (x,((1:Nat):Int))=_;rw[QK pT pU z pT pU];by_cases c1:cont s 1=true
  . have b1:=Gt z j c1
    rw[aFP c1,QK h pU b1.1 pT pU,c1,Bool.true_and];by_cases c2:cont s 2=true
    .rw[aFP c2,aFP c2,zZ (Gs pU)]
    rw[aFQ c2,aFQ c2]
  rw[aFQ c1,aFQ (by simp [c1])]
theorem a93 {s:pP}{x:Int}(h:3<s.length) (z:0<=x) (j:x<=7):sA (FF s 4) (x,1)=some (if (cont s 1&&cont s 2&&cont s 3)=true then .inl (zJ s 3 (zJ s 2 (zJ s 1 x))) else .inr (65533,1)):=by
  show sA _ (x,((1:Nat):Int))=_;rw[QK pT pU z pT pU];by_cases c1:cont s 1=true
  . have b1:=Gt z j c1
    rw[aFP c1,QK pT pU b1.1 pT pU,c1,Bool.true_and];by_cases c2:cont s 2=true
    . have b2:=Gt b1.1 b1.2 c2
      rw[aFP c2,QK h pU b2.1 pT pU,c2,Bool.true_and];by_cases c3:cont s 3=true
      .rw[aFP c3,aFP c3,zZ (Gs pU)]
      rw[aFQ c3,aFQ c3]
    rw[aFQ c2,aFQ (by simp [c2])]
  rw[aFQ c1,aFQ (by simp [c1])]
def fin (s:pP) (x:Int) (n:Nat):Int×Int:=if z7 x=true/\encodeRune x=s.take n then(x,n) else(65533,1)
theorem Gu {s:pP}{x:Int}{n:Nat}(D:n<=s.length):
    (if (((!(((decide ((0:Int)<=x))&&(decide (x<=(1114111:Int))))&&((decide (x<(55296:Int)))||(decide ((57343:Int)<x)))))==false)=true->((EM x)).isSome=true) then
    if (((!(((decide ((0:Int)<=x))&&(decide (x<=(1114111:Int))))&&((decide (x<(55296:Int)))||(decide ((57343:Int)<x)))))==false)=true->0<=(0:Int)/\(0:Int)<=(n:Int)/\(n:Int)<=(s.length:Int)) then
     if ((!(((decide ((0:Int)<=x))&&(decide (x<=(1114111:Int))))&&((decide (x<(55296:Int)))||(decide ((57343:Int)<x)))))||(!decide ((val (EM x))=(sG s (0:Int) (n:Int)))))=true then
      some (((65533:Int),(1:Int)))
     else
      some ((x,(n:Int)))
    else none
   else none)=some (fin s x n):=by
  rw[a01];simp only[show (((decide ((0:Int)<=x))&&(decide (x<=(1114111:Int))))&&((decide (x<(55296:Int)))||(decide ((57343:Int)<x))))=z7 x from rfl]
  unfold fin;by_cases hs:z7 x=true
  . have ho:=a03 ((LF x).1 hs)
    rw[aFP (fun _=>by rw[ho];rfl),aFP (fun _=>⟨aGO _,pT,pT⟩),ho,hs];by_cases z:encodeRune x=s.take n
    .rw[aFQ (by simp [val,z]),aFP ⟨rfl,z⟩]
    rw[aFP (by simp [val,z]),aFQ (fun h=>z h.2)]
  have j:z7 x=false:=by simpa using hs
  rw[aFP (fun h=>by simp [j] at h),aFP (fun h=>by simp [j] at h),aFP (by simp [j]),aFQ (fun h=>hs h.1)]
theorem JC (z:Int) (l:pZ) (x:UInt8) (h:z=(x.toNat:Int)):tO (z::l)=x::tO l:=by
  show UInt8.ofNat z.toNat::tO l=_;rw[h];simp
theorem Gv:tO []=[]:=rfl
theorem QL (l:pZ):(tO l).length=l.length:=by simp [tO]
theorem a94 {s:pP}(hl:1<s.length) (h0:192<=(s.getD 0 0).toNat) (G:(s.getD 0 0).toNat<224) (j:cont s 1=true):
    fin s (zJ s 1 ((s.getD 0 0).toNat-192)) 2=(((decodeL s).1:Int),((decodeL s).2:Int)):=by
  unfold cont at j;simp only[aFY] at j;have k0:=(s.getD 0 0).toNat_lt;have k1:=(s.getD 1 0).toNat_lt
  have F:decodeL s=if (s.getD 0 0).toNat%32*64+(s.getD 1 0).toNat%64>=128 then((s.getD 0 0).toNat%32*64+(s.getD 1 0).toNat%64,2) else(65533,1):=by
    rw[decodeL_N];unfold decodeN;rw[aFQ pT,aFP ⟨pT,pT,j⟩]
  rw[F];unfold fin zJ;rw[takeB s hl];have E:z7 (64*((s.getD 0 0).toNat-192)+(s.getD 1 0).toNat-128)=true:=(LF _).2 (by unfold BB;omega);rw[E];by_cases z:(s.getD 0 0).toNat%32*64+(s.getD 1 0).toNat%64>=128
  . rw[aFP z,aFP ⟨rfl,by
      rw[af pT pT,JC _ _ (s.getD 0 0) pT,JC _ _ (s.getD 1 0) pT,Gv]⟩]
    exact Prod.ext (by show _=(((_:Nat)):Int);omega) rfl
  rw[aFQ z,aFQ (fun h=>by
    have D:=aGd List.length h.2;rw[ae pT pT,QL] at D;simp at D)]
  rfl
theorem a95 {s:pP}(hl:2<s.length) (h0:224<=(s.getD 0 0).toNat) (O:(s.getD 0 0).toNat<240) (D:cont s 1=true) (j:cont s 2=true):
    fin s (zJ s 2 (zJ s 1 ((s.getD 0 0).toNat-224))) 3=(((decodeL s).1:Int),((decodeL s).2:Int)):=by
  unfold cont at D j;simp only[aFY] at D j;have k0:=(s.getD 0 0).toNat_lt;have k1:=(s.getD 1 0).toNat_lt;have k2:=(s.getD 2 0).toNat_lt;obtain⟨V,I⟩: ∃V,(s.getD 0 0).toNat%16*4096+(s.getD 1 0).toNat%64*64+(s.getD 2 0).toNat%64=V:=⟨_,rfl⟩
  have G:decodeL s=if V>=2048/\(V<55296\/(57344<=V/\V<=1114111)) then(V,3) else(65533,1):=by
    rw[decodeL_N];unfold decodeN;rw[aFQ pT,aFQ pT,aFP ⟨pT,⟨pT,D⟩,pT,j⟩,I]
  rw[G];unfold fin zJ;rw[takeC s hl];generalize Q:64*(64*(((s.getD 0 0).toNat:Int)-224)+(s.getD 1 0).toNat-128)+(s.getD 2 0).toNat-128=X;have E:X=(V:Int):=by omega
  by_cases F:V>=2048/\(V<55296\/(57344<=V/\V<=1114111))
  . rw[aFP F,aFP ⟨(LF _).2 (by unfold BB;omega),by
      rw[Gq pT,JC _ _ (s.getD 0 0) pT,JC _ _ (s.getD 1 0) pT,JC _ _ (s.getD 2 0) pT,Gv]⟩]
    exact Prod.ext E rfl
  rw[aFQ F,aFQ (fun h=>by
    have hs:=(LF _).1 h.1;unfold BB at hs;have M:X<2048:=by omega
    have z:=aGd List.length h.2;by_cases K:X<=127
    .rw[ae pT K,QL] at z;simp at z
    rw[af pT pT,QL] at z;simp at z)]
  rfl
theorem a96 {s:pP}(hl:3<s.length) (h0:240<=(s.getD 0 0).toNat) (Q:(s.getD 0 0).toNat<248) (E:cont s 1=true) (z:cont s 2=true) (j:cont s 3=true):
    fin s (zJ s 3 (zJ s 2 (zJ s 1 ((s.getD 0 0).toNat-240)))) 4=(((decodeL s).1:Int),((decodeL s).2:Int)):=by
  unfold cont at E z j;simp only[aFY] at E z j;have k0:=(s.getD 0 0).toNat_lt;have k1:=(s.getD 1 0).toNat_lt;have k2:=(s.getD 2 0).toNat_lt;have k3:=(s.getD 3 0).toNat_lt;obtain⟨V,K⟩: ∃V,(s.getD 0 0).toNat%8*262144+(s.getD 1 0).toNat%64*4096+(s.getD 2 0).toNat%64*64+(s.getD 3 0).toNat%64=V:=⟨_,rfl⟩
  have I:decodeL s=if V>=65536/\(V<55296\/(57344<=V/\V<=1114111)) then(V,4) else(65533,1):=by
    rw[decodeL_N];unfold decodeN;rw[aFQ pT,aFQ pT,aFQ pT,aFP ⟨pT,⟨pT,E⟩,⟨pT,z⟩,pT,j⟩,K]
  rw[I];unfold fin zJ;rw[takeD s hl];generalize R:64*(64*(64*(((s.getD 0 0).toNat:Int)-240)+(s.getD 1 0).toNat-128)+(s.getD 2 0).toNat-128)+(s.getD 3 0).toNat-128=X;have F:X=(V:Int):=by omega
  by_cases G:V>=65536/\(V<55296\/(57344<=V/\V<=1114111))
  . rw[aFP G,aFP ⟨(LF _).2 (by unfold BB;omega),by
      rw[a02 pT pT,JC _ _ (s.getD 0 0) pT,JC _ _ (s.getD 1 0) pT,JC _ _ (s.getD 2 0) pT,JC _ _ (s.getD 3 0) pT,Gv]⟩]
    exact Prod.ext F rfl
  rw[aFQ G,aFQ (fun h=>by
    have hs:=(LF _).1 h.1;unfold BB at hs;have O:X<65536:=by omega
    have D:=aGd List.length h.2;by_cases M:X<=127
    .rw[ae pT M,QL] at D;simp at D
    by_cases U:X<=2047
    .rw[af pT pT,QL] at D;simp at D
    rw[Gq pT,QL] at D;simp at D)]
  rfl
theorem O9 {s:pP}(h: ¬(s.getD 0 0).toNat<128) (j: ¬((s.getD 0 0).toNat/32=6/\1<s.length/\cont s 1=true)) (h3: ¬((s.getD 0 0).toNat/16=14/\2<s.length/\(cont s 1&&cont s 2)=true))
    (h4: ¬((s.getD 0 0).toNat/8=30/\3<s.length/\(cont s 1&&cont s 2&&cont s 3)=true)):decodeL s=(65533,1):=by
  unfold cont at j h3 h4;simp only[aF0,aFY] at j h3 h4;rw[decodeL_N];unfold decodeN;rw[aFQ h,aFQ (fun⟨a,b,c⟩=>j ⟨a,b,c⟩),aFQ (fun⟨a,⟨b,c⟩,d,e⟩=>h3 ⟨a,d,c,e⟩),aFQ (fun⟨a,⟨b,c⟩,⟨d,e⟩,f,g⟩=>h4 ⟨a,f,⟨c,e⟩,g⟩)]
theorem a97 {s:pP}(hne:s≠[]):KR s=some (((decodeL s).1:Int),((decodeL s).2:Int)):=by
  have hl:0<s.length:=aGH.2 hne;have E:sK s 0=((s.getD 0 0).toNat:Int):=a06 (i:=0) hl;have k0:=(s.getD 0 0).toNat_lt;have hw:IntKind.i64.wrap ((s.getD 0 0).toNat:Int)=((s.getD 0 0).toNat:Int):=by rw[aHE];omega
  unfold KR;rw[aFP ⟨aGO _,pT⟩,E,hw];by_cases c1:(s.getD 0 0).toNat<128
  . rw[aFP (by simp only[aFY];omega)]
    rw[decodeL_N];unfold decodeN;rw[aFP c1];rfl
  rw[aFQ (by simp only[aFY];omega)]
  by_cases c2:192<=(s.getD 0 0).toNat/\(s.getD 0 0).toNat<224
  . rw[aFP (by simp only[aF0,aFY];omega),aFP (by unfold qR;omega)]
    show (if decide ((s.length:Int)<2)=true then _ else _)=_;by_cases l2:1<s.length
    . rw[aFQ (by simp only[aFY];omega),a91 l2 pT pT]
      by_cases j:cont s 1=true
      . rw[aFP j,<-a94 l2 c2.1 c2.2 j,<-Gu (s:=s) (n:=2) pT]
        rfl
      rw[aFQ j,O9 c1 (fun h=>j h.2.2) (fun h=>by omega) (fun h=>by omega)]
      rfl
    rw[aFP (by simp only[aFY];omega),O9 c1 (fun h=>l2 h.2.1) (fun h=>by omega) (fun h=>by omega)]
    rfl
  rw[aFQ (by simp only[aF0,aFY];omega)]
  by_cases c3:224<=(s.getD 0 0).toNat/\(s.getD 0 0).toNat<240
  . rw[aFP (by simp only[aF0,aFY];omega),aFP (by unfold qR;omega)]
    show (if decide ((s.length:Int)<3)=true then _ else _)=_;by_cases l2:2<s.length
    . rw[aFQ (by simp only[aFY];omega),a92 l2 pT pT]
      by_cases j:(cont s 1&&cont s 2)=true
      . have z:=aF0 _ _▸j
        rw[aFP j,<-a95 l2 c3.1 c3.2 z.1 z.2,<-Gu (s:=s) (n:=3) pT];rfl
      rw[aFQ j,O9 c1 (fun h=>by omega) (fun h=>j h.2.2) (fun h=>by omega)]
      rfl
    rw[aFP (by simp only[aFY];omega),O9 c1 (fun h=>by omega) (fun h=>l2 h.2.1) (fun h=>by omega)]
    rfl
  rw[aFQ (by simp only[aF0,aFY];omega)]
  by_cases c4:240<=(s.getD 0 0).toNat/\(s.getD 0 0).toNat<248
  . rw[aFP (by simp only[aF0,aFY];omega),aFP (by unfold qR;omega)]
    show (if decide ((s.length:Int)<4)=true then _ else _)=_;by_cases l2:3<s.length
    . rw[aFQ (by simp only[aFY];omega),a93 l2 pT pT]
      by_cases j:(cont s 1&&cont s 2&&cont s 3)=true
      . have z:=aF0 _ _▸j
        have D:=aF0 _ _▸z.1;rw[aFP j,<-a96 l2 c4.1 c4.2 D.1 D.2 z.2,<-Gu (s:=s) (n:=4) pT];rfl
      rw[aFQ j,O9 c1 (fun h=>by omega) (fun h=>by omega) (fun h=>j h.2.2)]
      rfl
    rw[aFP (by simp only[aFY];omega),O9 c1 (fun h=>by omega) (fun h=>by omega) (fun h=>l2 h.2.1)]
    rfl
  rw[aFQ (by simp only[aF0,aFY];omega),O9 c1 (fun h=>by omega) (fun h=>by omega) (fun h=>by omega)]
  rfl
def A9:Nat->pP->pZ
  |0,_=>[]
  |n+1,s=>if s=[] then[] else((decodeL s).1:Int)::A9 n (s.drop (decodeL s).2)
theorem a07: ∀(n:Nat) (s:pP),(A9 n s).length<=n
  |0,_=>aGc _
  | n+1,s=>by
    unfold A9;split
    .simp
    simp only[aFV]
    have:=a07 n (s.drop (decodeL s).2);omega
theorem a98 (s:pP):BB ((decodeL s).1:Int):=by
  have k0:=(s.getD 0 0).toNat_lt;rw[decodeL_N];rcases decodeN_shape s.length (s.getD 0 0).toNat (s.getD 1 0).toNat (s.getD 2 0).toNat (s.getD 3 0).toNat with⟨c,e⟩ |⟨c1,c2,c3,cv,e⟩ |⟨c1,c2,c3,c4,cv,cs,e⟩ |⟨c1,c2,c3,c4,c5,cv,cw,e⟩ |e
  all_goals (rw[e];unfold BB;dsimp only;omega)
theorem a08: ∀(n:Nat) (s:pP) (out:pZ),s.length<=n->out.length+s.length<=4000000000->sA Q5 (s,out)=some (out++A9 n s)
  | n,[],out,_,_=>by
    rw[zZ (r:=out) (by unfold Q5;simp)];cases n<;>simp [A9]
  |0,b::t,_,h,_=>by simp at h
  | n+1,b::t,out,h,ho=>by
    have hne:(b::t)≠[]:=by simp
    have hle:=decodeL_le (b::t) hne;have hw:=decodeL_width (b::t)
    have j:Q5 (b::t,out)=some (.inl ((b::t).drop (decodeL (b::t)).2,out++[((decodeL (b::t)).1:Int)])):=by
      unfold Q5;dsimp only;rw[aFP pV,a97 hne];simp only[aFT];rw[aFP (by simp only[aFV,aF8] at ho|-;omega),aFP ⟨pT,pT,aGO _⟩,O8]
    rw[KA j,a08 n _ _ (by rw[aGp];simp only[aFV] at h hle|-;omega) (by rw[aGp,aFR];simp only[aFV,aF8] at ho hle|-;omega)];rw[show A9 (n+1) (b::t)=((decodeL (b::t)).1:Int)::A9 n ((b::t).drop (decodeL (b::t)).2) by rw[A9,aFQ hne],aF3];rfl
def ag (s:pP):pZ:=A9 s.length s
theorem a99 (s:pP) (hs:sE s):KZ s=some (ag s):=by
  unfold sE at hs;unfold KZ;rw[a08 s.length s [] (aGc _) (by simpa using hs)];rfl
theorem a09: ∀(n:Nat) (s:pP),∀x∈A9 n s,BB x
  |0,_,_,h=>by cases h
  | n+1,s,x,h=>by
    unfold A9 at h;split at h
    .cases h
    rcases aF1.1 h with h|h
    .rw[h];exact a98 s
    exact a09 n _ x h
def LG (l:pZ):pP:=(l.map encodeRune).flatten
theorem Gw (n:Int):(encodeRune n).length<=4:=by
  unfold encodeRune;rw[aGV];exact a04 n
theorem a1a (l:pZ) (D: ∀x∈l,BB x) (hl:sE l): ∀(n j:Nat) (s:pP),j+n=l.length->s.length+4*n<=10000000000000->sA (Q3 l) (s,(j:Int))=some (s++LG (l.drop j))
  | 0,j,s,F,_=>by
    have:j=l.length:=by omega
    subst this;rw[zZ (r:=s) (by unfold Q3;simp),aGN];simp [LG]
  | n+1,j,s,F,hs=>by
    have h:j<l.length:=by omega
    unfold sE at hl;have E:=D l[j] (aGG h);have h4:=Gw l[j]
    have z:Q3 l (s,(j:Int))=some (.inl (s++encodeRune l[j],((j+1:Nat):Int))):=by
      unfold Q3;dsimp only;rw[aFP (vI h),aFP (tQ h),EQ (t:= .int .i64) h];have hb:=(LF l[j]).2 E;unfold z7 at hb;rw[aFP hb,aFP (tQ h),a03 E];simp only[aFT];rw[aFP (by rw[aFR];omega),aFP (w4 pT)];rfl
    rw[KA z,a1a l D hl n (j+1) _ pT (by rw[aFR];omega),aGs h,aF3];rfl
theorem aAa (l:pZ) (h: ∀x∈l,BB x) (hl:sE l):NQ l=some (LG l):=by
  have j:=hl;unfold sE at j;unfold NQ;rw[show ((0:Int))=((0:Nat):Int) from rfl,a1a l h hl l.length 0 [] pT pW];rfl
theorem a1b: ∀(n:Nat) (s:pP),s.length<=n->s.length<=(LG (A9 n s)).length/\(LG (A9 n s)=s↔validD s=true)
  | n,[],_=>by
    have:A9 n []=[]:=by cases n<;>simp [A9]
    rw[this];simp [LG,validD_nil]
  |0,b::t,h=>by simp at h
  | n+1,b::t,h=>by
    have hne:(b::t)≠[]:=by simp
    have hle:=decodeL_le (b::t) hne;have hw:=decodeL_width (b::t);obtain⟨ih1,ih2⟩:=a1b n ((b::t).drop (decodeL (b::t)).2) (by rw[aGp];simp only[aFV] at h|-;omega)
    have hr:LG (A9 (n+1) (b::t))=encodeRune ((decodeL (b::t)).1:Int)++LG (A9 n ((b::t).drop (decodeL (b::t)).2)):=by
      rw[A9,aFQ hne];rfl
    rw[hr,validD_step _ hne];rw[aGp] at ih1;by_cases j:(decodeL (b::t)).1=65533/\(decodeL (b::t)).2=1
    . rw[aFP j,j.1]
      have e3:(encodeRune ((65533:Nat):Int)).length=3:=rfl;rw[j.2] at ih1|-;refine⟨by rw[aFR,e3];omega,fun z=>?_,fun z=>by cases z⟩;have:=aGd List.length z;rw[aFR,e3] at this;omega
    have z:=encode_decode (b::t) hne j
    rw[aFQ j,z];refine⟨by rw[aFR,aGy];omega,?_⟩;rw[<-ih2];constructor
    . intro D
      exact append_cancel_left (D.trans (aG1 _ _).symm)
    intro D
    rw[D,aG1]
theorem aAb (s:pP) (hs:sE s):uZ s=some (validD s):=by
  have hl:sE (ag s):=by
    have:=a07 s.length s;unfold sE ag at*;omega
  unfold uZ;rw[a99 s hs];simp only[aFT];rw[aAa (ag s) (fun x h=>a09 _ _ x h) hl];simp only[aFT];congr 1;have:=(a1b s.length s (aGc _)).2;rw[aHI,aFY];exact this
def sX (s:pP):Bool:=decide ((s.length:Int)<=4000)&&validD s
theorem U7 (s:pP) (hs:sE s):H6 s=some ()/\((decide ((s.length:Int)<=4000))&&val (uZ s))=sX s:=by
  unfold H6;rw[aAb s hs];exact⟨aFP (fun _=>rfl),rfl⟩
theorem OA (s:pP) (hs:sE s):EN s=some ():=by
  unfold sE at hs;unfold EN T6;rw[aFP (fun _=>by rw[aFP pT];rfl)]
theorem Gx (a b:pP):(!Op.bytesLess a b)=(Op.bytesLess b a||decide (b=a)):=by
  rw[bytesLess_eq,bytesLess_eq,aHI];simp only[aGj,aGu,aHo,aFY];constructor
  . intro h
    exact(List.le_iff_lt_or_eq.1 (List.not_lt.1 h))
  rintro(h|h)
  .exact List.lt_asymm h
  rw[h];exact List.lt_irrefl _
def wS (l:pQ):Bool:=decide ((l.length:Int)<=20)&& !(l.any fun x=> !sX x)
def U8 (l:pQ) (i:Nat):Bool:=(!v7 (l.getD i []))||(decide (0<i)&& !Op.bytesLess (l.getD (i-1) []) (l.getD i []))
def CV (l:pQ):Bool:= !((List.range l.length).any (U8 l))&&decide ((l.length:Int)<=20)
abbrev fD:t6:=([],([],()))
def U9 (l:List t6) (i:Nat):Bool:=((!v7 (l.getD i fD).1)||(!sX (l.getD i fD).2.1))||(decide (0<i)&& !Op.bytesLess (l.getD (i-1) fD).1 (l.getD i fD).1)
def wB (l:List t6):Bool:= !((List.range l.length).any (U9 l))&&decide ((l.length:Int)<=20)
abbrev tI:=sQ
def yE (x:tI):Bool:=
  (((((((!decide (x.1=[]))&&decide ((x.1.length:Int)<=200))&&sX x.1)&&sX x.2.1)&&sX x.2.2.1)&&wS x.2.2.2.1)&&CV x.2.2.2.2.1)&&(decide (0<=x.2.2.2.2.2.1)&&decide (x.2.2.2.2.2.1<=4))&&wB x.2.2.2.2.2.2.1
theorem sib (l:pP) (b:UInt8):vW l (b.toNat:Int)=indexByte l b:=by
  unfold vW;rw[aGI];congr 1;simp
def uH (d:UInt8):pP->qB
  |[]=>none
  |[b]=>if b=d then some 0 else none
  |b::c::t=>if b=d then some 0 else if b=92 then(uH d t).map (· +2) else(uH d (c::t)).map (· +1)
def OB:qB->Int
  |some k=>k
  |none=> -1
theorem ah {d:UInt8}:uH d []=none:=by unfold uH;rfl
theorem ai {d b:UInt8}{t:pP}(h:b=d):uH d (b::t)=some 0:=by
  subst h;cases t<;>(unfold uH;simp)
theorem aj {d b:UInt8}{t:pP}(h:b≠d) (hb:b=92):uH d (b::t)=(uH d (t.drop 1)).map (· +2):=by
  cases t with
  |nil=>unfold uH;rw[aFQ h];simp [uH]
  |cons c t=>rw[uH,aFQ h,aFP hb];rfl
theorem ak {d b:UInt8}{t:pP}(h:b≠d) (hb:b≠92):uH d (b::t)=(uH d t).map (· +1):=by
  cases t with
  |nil=>unfold uH;rw[aFQ h];simp [uH]
  |cons c t=>rw[uH,aFQ h,aFQ hb]
theorem al {d:UInt8}: ∀(n:Nat) (l:pP) (k:Nat),l.length<=n->uH d l=some k->k<l.length
  |_,[],_,_,h=>by rw[ah] at h;cases h
  |0,_::_,_,z,_=>by simp at z
  | n+1,b::t,k,z,h=>by
    simp only[aFV] at z|-;by_cases D:b=d
    .rw[ai D] at h;cases h;omega
    by_cases E:b=92
    . rw[aj D E] at h
      cases h3:uH d (t.drop 1) with
      |none=>rw[h3] at h;cases h
      | some j=>
        rw[h3] at h;obtain rfl:j+2=k:=aFU h;have:=al n (t.drop 1) j (by rw[aGp];omega) h3;rw[aGp] at this;omega
    rw[ak D E] at h
    cases h3:uH d t with
    |none=>rw[h3] at h;cases h
    | some j=>
      rw[h3] at h;obtain rfl:j+1=k:=aFU h;have:=al n t j pT h3;omega
theorem Gy {a b:UInt8}:((a.toNat:Int)=(b.toNat:Int))↔a=b:=by
  rw[Int.ofNat_inj];exact UInt8.toNat_inj
theorem Gz (n:Int) (G:n≠4) (s:pP) (d:UInt8) (hs:sE s): ∀(k i:Nat),s.length+1<=i+k->sA (ND n s (d.toNat:Int)) (i:Int)=some (zI (fun k=> .inr ((i+k:Nat):Int)) (.inl ()) (uH d (s.drop i)))
  | 0,i,h=>by
    rw[drop_eq_nil_of_le pT,ah,zZ (r:= .inl ()) (by unfold ND;rw[aFQ pW])];rfl
  | k+1,i,h=>by
    by_cases z:i<s.length
    . have I:=hs
      unfold sE at I
      have F:ND n s (d.toNat:Int) (i:Int)=if s[i]=d then some (.inr (.inr (i:Int))) else if s[i]=92 then some (.inl ((i+2:Nat):Int)) else some (.inl ((i+1:Nat):Int)):=by
        unfold ND;rw[aFP (vI z),aFP (tQ z),LD z];by_cases D:s[i]=d
        .rw[aFP (by simp [D]),aFP D]
        rw[aFQ (by simpa[Gy] using D),aFQ D,aFP (fun _=>tQ z)]
        have K:((92:Int))=((92:UInt8).toNat:Int):=rfl;by_cases E:s[i]=92
        . rw[aFP (by rw[E];simp [G]),aFP E,aFP (w4 pT),aFP (by unfold qR;omega)]
          congr 3
        rw[aFQ (fun h=>by
          simp only[aF0,aFY] at h;exact E (Gy.1 (h.2.trans K))),aFQ E,aFP (w4 pT)]
        rfl
      rw[vB,F,aGs z];by_cases D:s[i]=d
      .rw[aFP D,ai D];rfl
      rw[aFQ D]
      by_cases E:s[i]=92
      . rw[aFP E,aj D E]
        show sA _ ((i+2:Nat):Int)=_;rw[Gz n G s d hs k (i+2) pT,aHZ];cases uH d (s.drop (i+2)) with
        |none=>rfl
        | some j=>
          show some (Sum.inr ((i+2+j:Nat):Int))=some (Sum.inr ((i+(j+2):Nat):Int));rw[show i+2+j=i+(j+2) by omega]
      rw[aFQ E,ak D E]
      show sA _ ((i+1:Nat):Int)=_;rw[Gz n G s d hs k (i+1) pT];cases uH d (s.drop (i+1)) with
      |none=>rfl
      | some j=>
        show some (Sum.inr ((i+1+j:Nat):Int))=some (Sum.inr ((i+(j+1):Nat):Int));rw[show i+1+j=i+(j+1) by omega]
    rw[drop_eq_nil_of_le pT,ah,zZ (r:= .inl ()) (by unfold ND;rw[aFQ pW])]
    rfl
theorem aAc {n:Int}(j:1<=n) (h3:n<=3) (s:pP) (d:UInt8) (hs:sE s):NE n s (d.toNat:Int)=some (OB (uH d s)):=by
  unfold NE;have h:=Gz n pT s d hs (s.length+1) 0 pT;rw[aFQ pW,show ((0:Int))=((0:Nat):Int) from rfl,h,aG4];cases uH d s with
  |none=>rfl
  | some k=>
    show some (((0+k:Nat)):Int)=some (k:Int);rw[aGk]
def JD (c base:Int):Int:=
  let n:=if 48<=c/\c<=57 then c-48 else if 97<=c/\c<=102 then c-87 else if 65<=c/\c<=70 then c-55 else-1
  if base<=n then-1 else n
def aq:pP:=[48,49,50,51,52,53,54,55,56,57,97,98,99,100,101,102]
theorem aAd: ∀n:Fin 256,indexByte aq (UInt8.ofNat n)=if 48<=(n.val:Int)/\(n.val:Int)<=57 then(n.val:Int)-48 else if 97<=(n.val:Int)/\(n.val:Int)<=102 then(n.val:Int)-87 else-1:=by decide
theorem aAe (b:UInt8):indexByte aq b=if 48<=(b.toNat:Int)/\(b.toNat:Int)<=57 then(b.toNat:Int)-48 else if 97<=(b.toNat:Int)/\(b.toNat:Int)<=102 then(b.toNat:Int)-87 else-1:=by
  have:=aAd ⟨b.toNat,b.toNat_lt⟩;simpa using this
def FX (base:Int):Int->pP->Option Int
  |acc,[]=>some acc
  |acc,b::t=>if JD b.toNat base<0 then none else FX base (base*acc+JD b.toNat base) t
theorem aAf {c base:Int}(hb:0<base): -1<=JD c base/\JD c base<base:=by
  unfold JD;dsimp only
  repeat' split
  all_goals omega
theorem a1d (s:pP) (base:Int) (hb:0<base) (G:base<=16) (hs:s.length<=8): ∀(k j:Nat) (acc:Int),j+k=s.length->0<=acc->acc<16^j->
    sA (PW s base) (acc,(j:Int))=some (match FX base acc (s.drop j) with|some n=> .inl n|none=> .inr (0,false))
  | 0,j,acc,Q,_,_=>by
    have:j=s.length:=by omega
    subst this;rw[aGN,zZ (r:= .inl acc) (by unfold PW;simp)];rfl
  | k+1,j,acc,Q,h0,Y=>by
    have z:j<s.length:=by omega
    have V:=s[j].toNat_lt;have U:=aAf (c:=(s[j].toNat:Int)) hb
    have hp:(16:Int) ^j<=16^8:=by
      have:(16:Nat) ^j<=16^8:=Nat.pow_le_pow_right pU pT
      exact_mod_cast this
    have X:(16:Int) ^8=4294967296:=by decide
    have hm:acc*base<=acc*16:=Int.mul_le_mul_of_nonneg_left G h0;have R:0<=acc*base:=Int.mul_nonneg h0 pT;have hcm:acc*base=base*acc:=Int.mul_comm _ _
    have I:PW s base (acc,(j:Int))=if JD s[j].toNat base<0 then some (.inr (.inr (0,false))) else some (.inl (base*acc+JD s[j].toNat base,((j+1:Nat):Int))):=by
      unfold PW;dsimp only;rw[aFP (vI z),aFP (tQ z),aFP (tQ z),aFP (fun _=>tQ z),LD z,aFP (tQ z),sib];have M:=aAe s[j]
      have K:(if ((decide ((65:Int)<=(s[j].toNat:Int)))&&(decide ((s[j].toNat:Int)<=(70:Int))))=true then(if qR ((IntKind.wrap .i64 (IntKind.wrap .u8 ((s[j].toNat:Int)- (65:Int))))+(10:Int)) then some (((IntKind.wrap .i64 (IntKind.wrap .u8 ((s[j].toNat:Int)- (65:Int))))+(10:Int))) else none) else some (indexByte aq s[j]))=some (if 48<=(s[j].toNat:Int)/\(s[j].toNat:Int)<=57 then(s[j].toNat:Int)-48 else if 97<=(s[j].toNat:Int)/\(s[j].toNat:Int)<=102 then(s[j].toNat:Int)-87 else if 65<=(s[j].toNat:Int)/\(s[j].toNat:Int)<=70 then(s[j].toNat:Int)-55 else-1):=by
        by_cases c:65<=(s[j].toNat:Int)/\(s[j].toNat:Int)<=70
        . rw[aFP (by simpa using c),show IntKind.i64.wrap (IntKind.u8.wrap ((s[j].toNat:Int)-65))=(s[j].toNat:Int)-65 by rw[aHT,aHE];omega,aFP (by unfold qR;omega),aFQ pT,aFQ pT,aFP c]
          congr 1;omega
        rw[aFQ (by simpa using c),M,aFQ c]
      unfold uS;rw[show ([48,49,50,51,52,53,54,55,56,57,97,98,99,100,101,102]:pP)=aq from rfl,K];simp only[aFT];unfold JD;dsimp only;generalize (if 48<=(s[j].toNat:Int)/\(s[j].toNat:Int)<=57 then(s[j].toNat:Int)-48 else if 97<=(s[j].toNat:Int)/\(s[j].toNat:Int)<=102 then(s[j].toNat:Int)-87 else if 65<=(s[j].toNat:Int)/\(s[j].toNat:Int)<=70 then(s[j].toNat:Int)-55 else-1)=D;by_cases E:D<0\/base<=D
      . rw[aFP (by simpa using E)]
        by_cases F:base<=D
        .rw[aFP F,aFP pU]
        rw[aFQ F,aFP pT]
      rw[aFQ (by simpa using E)]
      have F: ¬base<=D:=fun h=>E (.inr h);have O: ¬D<0:=fun h=>E (.inl h);rw[aFQ F,aFQ O,aFP (by unfold qR;omega),aFP (by unfold qR;omega),aFP (w4 pT),hcm];rfl
    rw[vB,I,aGs z,FX];by_cases E:JD s[j].toNat base<0
    .rw[aFP E,aFP E];rfl
    rw[aFQ E,aFQ E]
    show sA _ (_,((j+1:Nat):Int))=_;exact a1d s base hb G hs k (j+1) _ pT pT (by rw[Int.pow_succ];omega)
theorem a1e (s:pP) (base:Int) (hb:0<base) (j:base<=16) (hs:s.length<=8):GX s base=some (match FX base 0 s with|some n=>(n,!decide (s=[])) |none=>(0,false)):=by
  unfold GX;rw[show ((0:Int),(0:Int))=((0:Int),((0:Nat):Int)) from rfl,a1d s base hb j hs s.length 0 0 pT pT pU,aG4];cases h:FX base 0 s with
  |none=>rfl
  |some n=>rfl
theorem Ha {base:Int}(hb:0<base): ∀{s:pP}{acc n:Int},0<=acc->FX base acc s=some n->0<=n
  |[],acc,n,h0,h=>by cases h;exact h0
  | b::t,acc,n,h0,h=>by
    rw[FX] at h;split at h
    .cases h
    exact Ha hb (by have:=Int.mul_nonneg (Int.le_of_lt hb) h0;omega) h
def UA:pP:=[92,34,61,58,35,33,123,125,32]
def LH (l:pP) (k:Nat) (ok:Int->Bool) (f:Int->pP):pP×Nat:=
  match FX 16 0 l with
  |some n=>if ok n=true then(f n,k) else([],0)
  |none=>([],0)
def zP (l:pP):pP×Nat:=
  match l with
  | _::c::t=>
    if c=110 then([10],2) else if c=114 then([13],2) else if c=116 then([9],2)
    else if UA.contains c=true then([c],2)
    else if c=120/\2<=t.length then LH (t.take 2) 4 (fun n=>decide (n<=127)) (fun n=>tO [n])
    else if c=117/\4<=t.length then LH (t.take 4) 6 z7 encodeRune
    else([],0)
  |_=>([],0)
theorem DZ {a:UInt8}{n:Int}(b:UInt8) (hb:n=(b.toNat:Int)):decide ((a.toNat:Int)=n)=decide (a=b):=by
  rw[hb];simp only[Gy]
theorem aAg (a c:UInt8) (t:pP):sG (a::c::t) 2 4=t.take 2:=rfl
theorem aAh (a c:UInt8) (t:pP):sG (a::c::t) 2 6=t.take 4:=rfl
theorem aAi (a c:UInt8) (t:pP):sG (a::c::t) 1 2=[c]:=rfl
theorem aAj (a:UInt8) (t:pP):J8 (a::t)=some ((zP (a::t)).1,((zP (a::t)).2:Int)):=by
  cases t with
  |nil=>unfold J8;rw[aFP pV];rfl
  | cons c t=>
    have M:sK (a::c::t) (1:Int)=(c.toNat:Int):=LD (i:=1) pV;have D:((a::c::t).length:Int)=(t.length:Int)+2:=by simp;omega
    unfold J8;rw[aFQ pW,aFP (⟨pU,by simp;omega⟩),M,DZ (n:=110) 110 rfl,DZ (n:=114) 114 rfl,DZ (n:=116) 116 rfl,DZ (n:=120) 120 rfl,DZ (n:=117) 117 rfl,sib,aAg,aAh,aAi,D,<-contains_iff_indexByte];show _=some ((if c=110 then(([10],2):pP×Nat) else _).1,((if c=110 then(([10],2):pP×Nat) else _).2:Int));by_cases F:c=110
    .rw[aFP (by simpa using F),aFP F];rfl
    rw[aFQ (by simpa using F),aFQ F];by_cases E:c=114
    .rw[aFP (by simpa using E),aFP E];rfl
    rw[aFQ (by simpa using E),aFQ E];by_cases h3:c=116
    .rw[aFP (by simpa using h3),aFP h3];rfl
    rw[aFQ (by simpa using h3),aFQ h3];by_cases G:c=120
    . subst G
      rw[aFP (show decide ((120:UInt8)=120)=true from rfl),aFQ (show¬UA.contains 120=true by decide)];by_cases z:2<=t.length
      . rw[aFP pW,aFP ⟨pU,pU,pT⟩,aFP (show _/\_ from⟨rfl,z⟩),a1e _ 16 pU pU (by rw[aGy];omega),aFT]
        unfold LH;cases K:FX 16 0 (t.take 2) with
        |none=>rfl
        | some n=>
          have h0:=Ha pU (aGO 0) K;have hne:t.take 2≠[]:=by intro h;have:=aGd List.length h;rw[aGy,aF8] at this;omega
          simp only[hne,decide_false,Bool.not_false,Bool.true_and];by_cases j:n<=127
          .rw[aFP (by simpa using j),aFP (by simpa using j),aHT,show n%256=n by omega];rfl
          rw[aFQ (by simpa using j),aFQ (by simpa using j)];rfl
      rw[aFQ pW,aFQ (fun h=>z h.2),aFQ (show¬((120:UInt8)=117/\4<=t.length) from fun h=>by cases h.1)]
      rfl
    rw[aFQ (by simpa using G)];by_cases I:c=117
    . subst I
      rw[aFP (show decide ((117:UInt8)=117)=true from rfl),aFQ (show¬UA.contains 117=true by decide),aFQ (show¬((117:UInt8)=120/\2<=t.length) from fun h=>by cases h.1)];by_cases z:4<=t.length
      . rw[aFP pW,aFP ⟨pU,pU,pT⟩,aFP (show _/\_ from⟨rfl,z⟩),a1e _ 16 pU pU (by rw[aGy];omega),aFT]
        unfold LH;cases K:FX 16 0 (t.take 4) with
        |none=>rfl
        | some n=>
          have h0:=Ha pU (aGO 0) K;have hne:t.take 4≠[]:=by intro h;have:=aGd List.length h;rw[aGy,aF8] at this;omega
          simp only[hne,decide_false,Bool.not_false];rw[aFP trivial,a9Z,aFT]
          have hb:z7 n=(decide (n<=1114111)&&(decide (n<55296)||decide (57343<n))):=by
            unfold z7;rw[show decide ((0:Int)<=n)=true by simpa using h0,Bool.true_and]
          rw[<-hb];by_cases j:z7 n=true
          .rw[aFP j,aFP j,aFP j];rfl
          rw[aFQ j,aFQ j];rfl
      rw[aFQ pW,aFQ (fun h=>z h.2)]
      rfl
    rw[aFQ (by simpa using I)];show (if UA.contains c=true then _ else _)=_;by_cases h4:UA.contains c=true
    .rw[aFP h4,aFP h4,aFP ⟨pU,pU,pT⟩];rfl
    rw[aFQ h4,aFQ h4,aFQ (fun h=>G h.1),aFQ (fun h=>I h.1)]
    rfl
def JE (n:Int) (b:UInt8):Bool:=decide (b=10)||((decide (n=2)||decide (n=3))&&decide (b=34))
def vO (n:Int):pP->pP×Nat
  |[]=>([],0)
  |b::t=>if b=92 then zP (b::t) else if JE n b=true then([b],0) else([b],1)
theorem au {l:pP}{k:Nat}{ok:Int->Bool}{f:Int->pP}(hf: ∀n,(f n).length<=4):(LH l k ok f).1.length<=4/\((LH l k ok f).2=0\/(LH l k ok f).2=k):=by
  unfold LH;cases FX 16 0 l with
  |none=>exact⟨by simp,.inl rfl⟩
  | some n=>
    dsimp only;split
    .exact⟨hf n,.inr rfl⟩
    exact⟨by simp,.inl rfl⟩
theorem aAk (l:pP):(zP l).1.length<=4/\(zP l).2<=l.length:=by
  unfold zP;split
  . rename_i a c t
    have z:=au (l:=t.take 2) (k:=4) (ok:=fun n=>decide (n<=127)) (f:=fun n=>tO [n]) (fun n=>by simp [tO]);have j:=au (l:=t.take 4) (k:=6) (ok:=z7) (f:=encodeRune) Gw
    repeat' split
    all_goals first
      |exact⟨by simp,by simp⟩
      |(rename_i h;exact⟨z.1,by rcases z.2 with e|e<;>rw[e]<;>simp<;>omega⟩)
      |(rename_i h;exact⟨j.1,by rcases j.2 with e|e<;>rw[e]<;>simp<;>omega⟩)
  exact⟨by simp,by simp⟩
theorem UB {n:Int}{b:UInt8}{t:pP}(h:b=92):vO n (b::t)=zP (b::t):=aFP h
theorem UC {n:Int}{b:UInt8}{t:pP}(h:b≠92) (hb:JE n b=true):vO n (b::t)=([b],0):=(aFQ h).trans (aFP hb)
theorem UD {n:Int}{b:UInt8}{t:pP}(h:b≠92) (hb: ¬JE n b=true):vO n (b::t)=([b],1):=(aFQ h).trans (aFQ hb)
theorem Hb (n:Int) (l:pP):(vO n l).1.length<=4/\(vO n l).2<=l.length:=by
  cases l with
  |nil=>exact⟨by simp [vO],by simp [vO]⟩
  | cons b t=>
    by_cases h:b=92
    .rw[UB h];exact aAk _
    by_cases hb:JE n b=true
    .rw[UC h hb];exact⟨by simp,by simp⟩
    rw[UD h hb];exact⟨by simp,by simp⟩
def C8 (n:Int):Nat->pP->pP⊕Nat
  |0,_=> .inl []
  |_+1,[]=> .inl []
  | k+1,b::t=>if (vO n (b::t)).2=0 then .inr 0 else match C8 n k ((b::t).drop (vO n (b::t)).2) with
    | .inl r=> .inl ((vO n (b::t)).1++r)
    | .inr e=> .inr ((vO n (b::t)).2+e)
def xE (n:Int) (s:pP):pP×Int×Int:=match C8 n s.length s with
  | .inl r=>(r,0,0)
  | .inr e=>([],e,3)
theorem Hc (a b:pP):uY (a++b)=uY a++uY b:=by simp [uY]
theorem Hd (a:pP):tO (uY a)=a:=by
  unfold tO uY;rw[map_map]
  conv=>rhs;rw[<-map_id a]
  congr 1;funext b;simp
theorem aAl {n:Int}(j:1<=n) (h3:n<=3) (b:UInt8):NF n (b.toNat:Int)=JE n b:=by
  unfold NF JE BQ;rw[DZ (n:=10) 10 rfl,DZ (n:=34) 34 rfl];by_cases c1:n=1
  .subst c1;simp
  have h:n=2\/n=3:=by omega
  rcases h with rfl|rfl<;>simp
theorem aAm {x:pZ}{c:Int}(h:x.length<=10000000000000):NH (x,()) c=some ():=by
  unfold NH;exact aFP (by simp only[aG2,aHy];omega)
theorem aAn {x:pZ}{t:pP}(h:x.length<=10000000000000) (j:t.length<=4000000000):EL (x,()) t=some ():=by
  unfold EL;exact aFP (by dsimp only;omega)
theorem aAo {n:Int}(z:1<=n) (h3:n<=3) {s:pP}(hs:sE s) {x:pZ}{i:Nat}(hi:i<s.length) (j:x.length<=10000000000000):
    QD n s ((i:Int),x)=if (vO n (s.drop i)).2=0 then some (.inr (.inr ([],(i:Int),3))) else some (.inl (((i+(vO n (s.drop i)).2:Nat):Int),x++uY (vO n (s.drop i)).1)):=by
  have h:=hs;unfold sE at h;have hp:=Hb n (s.drop i);rw[aGp] at hp;unfold QD;dsimp only;rw[aFP (vI hi),aFP (tQ hi),LD hi,O8,DZ (n:=92) 92 rfl,aAl z h3];rw[aGs hi] at hp|-;by_cases c1:s[i]=92
  . rw[UB c1] at hp|-
    rw[aFP (by simpa using c1),aFP ⟨pT,pT,aGO _⟩,aAj];simp only[aFT];by_cases h0:(zP (s[i]::s.drop (i+1))).2=0
    .rw[aFP (by rw[h0];rfl),aFP h0]
    rw[aFQ (by rw[aFY];omega),aFQ h0,aAn j pT]
    simp only[aFT];rw[aFP (by unfold qR;omega)];rfl
  rw[aFQ (by simpa using c1),aFP (tQ hi)]
  by_cases hb:JE n s[i]=true
  .rw[aFP hb,UC c1 hb];rfl
  rw[aFQ hb,UD c1 hb,aFP (tQ hi),aAm j,aFT]
  rw[aFP (w4 pT)];rfl
theorem a1f {n:Int}(j:1<=n) (h3:n<=3) {s:pP}(hs:sE s): ∀(k i:Nat) (x:pZ),i<=s.length->s.length-i<=k->x.length+4*(s.length-i)<=5000000000000->
    sA (QD n s) ((i:Int),x)=some (match C8 n k (s.drop i) with| .inl r=> .inl (x++uY r) | .inr e=> .inr ([],((i+e:Nat):Int),3))
  | k,i,x,hi,E,D=>by
    by_cases h:i<s.length
    . cases k with
      |zero=>omega
      | succ k=>
        have hp:=Hb n (s.drop i);rw[vB,aAo j h3 hs h pT];rw[aGp] at hp
        have z:C8 n (k+1) (s.drop i)=if (vO n (s.drop i)).2=0 then .inr 0 else match C8 n k ((s.drop i).drop (vO n (s.drop i)).2) with
            | .inl r=> .inl ((vO n (s.drop i)).1++r)
            | .inr e=> .inr ((vO n (s.drop i)).2+e):=by
          rw[aGs h,C8]
        rw[z];by_cases h0:(vO n (s.drop i)).2=0
        .rw[aFP h0,aFP h0];rfl
        rw[aFQ h0,aFQ h0]
        show sA _ (((i+(vO n (s.drop i)).2:Nat):Int),_)=_;rw[a1f j h3 hs k _ _ pT pT (by rw[aFR];simp only[uY,aGV];omega),aHZ];cases C8 n k (s.drop (i+(vO n (s.drop i)).2)) with
        |inl r=>dsimp only;rw[Hc,aF3]
        |inr e=>dsimp only;rw[aGv]
    have:i=s.length:=by omega
    subst this;rw[zZ (r:= .inl x) (by unfold QD;simp),aGN];cases k<;>simp [C8,uY]
theorem aAp {n:Int}(j:1<=n) (h3:n<=3) {s:pP}(hs:sE s):J9 n s=some (xE n s):=by
  unfold J9;have h:=hs;unfold sE at h;rw[aFQ pW,aFQ pW,show ((0:Int),([]:pZ))=(((0:Nat):Int),([]:pZ)) from rfl,a1f j h3 hs s.length 0 [] pT pT pW,aG4];unfold xE;cases C8 n s.length s with
  | inl r=>
    show some (tO ([]++uY r),(0:Int),(0:Int))=_;rw[nil_append,Hd]
  | inr e=>
    show some (([]:pP),((0+e:Nat):Int),(3:Int))=_;rw[aGk]
theorem aAq (x y:UInt8):(x==y)=decide (y=x):=by
  by_cases h:y=x
  .subst h;rw[beq_self_eq_true,aGx rfl]
  rw[decide_eq_false h,beq_eq_false_iff_ne];exact fun e=>h e.symm
theorem aAr {o:qB}:(if (OB o== -1)=true then(-1:Int) else OB o+1)=OB (o.map (· +1)):=by
  cases o with
  |none=>rfl
  | some k=>
    show (if ((k:Int)== -1)=true then(-1:Int) else(k:Int)+1)=((k+1:Nat):Int);rw[aFQ (by rw[aHr];omega)];rfl
theorem He: ∀(l:pP),indexByte l 10=OB (l.findIdx? fun b=>decide (b=10))
  |[]=>rfl
  | b::t=>by
    rw[indexByte,aHs,He t,aAq,aAr];by_cases h:b=10
    .subst h;rfl
    rw[aFQ (by simpa using fun e=>h (Eq.symm e)),aFQ (by simpa using h)]
theorem aAs (l:pP):(zP l).2=0\/(zP l).1.length<=(zP l).2:=by
  unfold zP;split
  . rename_i a c t
    have j:=au (l:=t.take 2) (k:=4) (ok:=fun n=>decide (n<=127)) (f:=fun n=>tO [n]) (fun n=>by simp [tO]);have h:=au (l:=t.take 4) (k:=6) (ok:=z7) (f:=encodeRune) Gw
    repeat' split
    all_goals first
      |exact .inl rfl
      |exact .inr pV
      | (rcases j.2 with e|e
         .exact .inl e
         .exact .inr (by rw[e];exact j.1))
      | (rcases h.2 with e|e
         .exact .inl e
         exact .inr (by rw[e];have:=h.1;omega))
  exact .inl rfl
theorem aAt (n:Int) (l:pP):(vO n l).2=0\/(vO n l).1.length<=(vO n l).2:=by
  cases l with
  |nil=>exact .inl rfl
  | cons b t=>
    by_cases h:b=92
    .rw[UB h];exact aAs _
    by_cases hb:JE n b=true
    .rw[UC h hb];exact .inl rfl
    rw[UD h hb];exact .inr pV
theorem a1g (n:Int): ∀(k:Nat) (l r:pP),C8 n k l= .inl r->r.length<=l.length
  |0,_,_,h=>by cases h;simp
  |_+1,[],_,h=>by cases h;simp
  | k+1,b::t,r,h=>by
    rw[C8] at h;split at h
    .cases h
    rename_i z
    have hp:=(aAt n (b::t)).resolve_left z;have hq:=(Hb n (b::t)).2;cases j:C8 n k ((b::t).drop (vO n (b::t)).2) with
    | inl r'=>
      rw[j] at h;cases h;have:=a1g n k _ r' j;rw[aGp] at this;rw[aFR];omega
    |inr e=>rw[j] at h;cases h
theorem a1h (n:Int) (s:pP):(xE n s).1.length<=s.length:=by
  unfold xE;cases h:C8 n s.length s with
  |inl r=>exact a1g n _ _ _ h
  |inr e=>simp
theorem QM {p:Prop}{α:Type}{v:α}:p->(some v).isSome=true:=fun _=>rfl
abbrev C4:=pP×(pQ×(List t6×(List sQ×Unit)))
theorem xQ {v:Ty}(a b:pP) (y:v.den): ∀l:List (pP×v.den),sW .str v (tA .str v a y l) b=if b=a then y else sW .str v l b
  | []=>by
    show (if decide (b=a)=true then y else v.zero)=if b=a then y else v.zero;by_cases h:b=a<;>simp [h]
  | (x,z)::r=>by
    have ih:=xQ a b y r;show sW .str v (if decide (a=x)=true then(a,y)::r else(x,z)::tA .str v a y r) b=if b=a then y else(if decide (b=x)=true then z else sW .str v r b);by_cases h:a=x
    . rw[aFP (aGx h)]
      show (if decide (b=a)=true then y else sW .str v r b)=_;by_cases hb:b=a
      .rw[aFP (aGx hb),aFP hb]
      rw[aFQ (by simpa using hb),aFQ hb,aFQ (by rw[<-h];simpa using hb)]
    rw[aFQ (by simpa using h)]
    show (if decide (b=x)=true then z else sW .str v (tA .str v a y r) b)=_;rw[ih];by_cases hb:b=a
    .rw[aFP hb,aFP hb,aFQ (by rw[hb];simpa using h)]
    rw[aFQ hb,aFQ hb]
theorem HD: ∀(x y:pP),Op.bytesLess x y=decide (x<y)
  |[],[]=>by simp [Op.bytesLess]
  |_::_,[]=>by simp [Op.bytesLess]
  |[],_::_=>by simp [Op.bytesLess]
  | a::x,b::y=>by
    rw[Op.bytesLess,HD x y];simp only[cons_lt_cons_iff];by_cases j:a<b<;>by_cases h:a=b<;>by_cases h3:x<y<;>simp [j,h,h3]
theorem Hf (l:pQ):(tX l).Pairwise (·<=·):=by
  have:=pairwise_mergeSort (le:=fun x y:pP=>decide (x<=y)) (fun a b c z j=>aGx (List.le_trans (aGt z) (aGt j))) (fun a b=>by simpa using List.le_total a b) l;exact this.imp (fun h=>aGt h)
theorem UE (l:pQ):(tX l).Perm l:=mergeSort_perm l _
theorem UF (l:pQ):(tX l).length=l.length:=(UE l).length_eq
theorem aAu {σ ρ:Type}{f:σ->Option (σ⊕ρ)}{x y:σ}(h:f x=some (.inl y)):sA f x=sA f y:=by
  rw[vB,h];rfl
theorem aAv {σ ρ:Type}{f:σ->Option (σ⊕ρ)}{x:σ}{r:ρ}(h:f x=some (.inr r)):sA f x=some r:=by
  rw[vB,h];rfl
abbrev Hg (y:sQ):Prop:=sE y.2.2.2.1/\sE y.2.2.2.2.1/\sE y.2.2.2.2.2.2.1
def QN (es:List sQ) (x:pP):Int×Bool:=zI (fun k=>((k:Int),true)) ((0:Int),false) (es.findIdx? fun y=>decide (y.1=x))
theorem aAw (c:C4) (x:pP) (hl:c.2.2.2.1.length<=5000):KK c x=some (QN c.2.2.2.1 x):=by
  have h:=LE (f:=SY c x) (l:=c.2.2.2.1) (fun y=>decide (y.1=x)) (fun k=>((k:Int),true)) (fun i h=>by
    unfold SY;rw[aFP (vI h),aFP (tQ h),EQ (t:=tE) h,aFP (w4 pT)]) (by
    unfold SY;rw[aFQ (xD _)])
  unfold KK;rw[h,U6];rfl
theorem Hh {α:Type}{f:Int->Option (Int⊕(Unit⊕Bool))}(l:List α) (hf: ∀(i:Nat) (h:i<l.length),f i=some (.inl (i+1))) (j:f l.length=some (.inr (.inl ()))):
    sA f 0=some (.inl ()):=by
  have h:=LE (f:=f) (l:=l) (fun _=>false) (fun _=>false) (fun i h=>by rw[aFQ Bool.false_ne_true];exact hf i h) j;rw[h];have:l.findIdx? (fun _=>false)=none:=aGM.2 (fun _ _=>rfl);rw[this];rfl
theorem QO (l:pQ) (hl:sE l):xO l l=some true:=by
  unfold sE at hl;unfold xO
  rw[aFQ pV,Hh l (fun i h=>by
    unfold YZ;rw[aFP (vI h),aFP (tQ h),aFP (tQ h),aFQ pV,aFP (w4 pT)]) (by
    unfold YZ;rw[aFQ (xD _)])]
  rfl
theorem av (l:List t6) (hl:sE l):B8 l l=some true:=by
  unfold sE at hl;unfold B8
  rw[aFQ pV,Hh l (fun i h=>by
    unfold Z0;rw[aFP (vI h),aFP (tQ h),aFP (tQ h),aFQ pV,aFP (w4 pT)]) (by
    unfold Z0;rw[aFQ (xD _)])]
  rfl
theorem aAx (y:sQ) (h:Hg y):PP y y=some ():=by
  unfold PP;rw[QO _ h.1,QO _ h.2.1,av _ h.2.2,aFP QM,aFP QM,aFP QM]
theorem a1i (l:List sQ) (hl:sE l) (h: ∀y∈l,Hg y):FL l l=some true:=by
  unfold sE at hl;unfold FL
  rw[aFQ pV,Hh l (fun i hi=>by
    have j:=h l[i] (aGG hi);unfold ZB;rw[aFP (vI hi),aFP (tQ hi),aFP (tQ hi),EQ (t:=tE) hi];rw[aAx _ j,aFT,QO _ j.1,QO _ j.2.1,av _ j.2.2,aFQ (by simp [val]),aFP (w4 pT)]) (by
    unfold ZB;rw[aFQ (xD _)])]
  rfl
theorem a1j {σ ρ:Type}{f:σ->Option (σ⊕ρ)}{n:Nat}(st:Nat->σ) {r:ρ}(h: ∀i,i<n->f (st i)=some (.inl (st (i+1)))) (j:f (st n)=some (.inr r)): ∀(k i:Nat),i+k=n->sA f (st i)=some r
  | 0,i,hi=>by
    have:i=n:=by omega
    subst this;exact aAv j
  | k+1,i,hi=>by
    rw[aAu (h i pT)];exact a1j st h j k (i+1) pT
abbrev pc (s:pP) (l:qC) (i:Nat):pP:=sG s ((if i=0 then 0 else l.getD (i-1) 0:Nat):Int) (l.getD i 0:Nat)
abbrev QP (s:pP) (l:qC):pQ:=(List.range l.length).map (pc s l)
abbrev QQ (l:qC):Nat:=l.getD (l.length-1) 0
section
variable {s:pP}(hsm:s.length<=4000000000) {l:qC}(hne:l≠[]) (hs:l.Pairwise (·<=·)) (hle: ∀x∈l,x<=s.length) (hl:l.length<=5000)
theorem aw {i:Nat}(h:i<l.length):qV (.int .i64) (l.map (fun n:Nat=>(n:Int))) (i:Int)=(l.getD i 0:Nat):=by
  rw[EQ (t:= .int .i64) (by simpa using h),getElem_map,aGb,aFW h];rfl
include hle in
theorem Hi {i:Nat}(h:i<l.length):l.getD i 0<=s.length:=by
  rw[aGb,aFW h];exact hle _ (aGG h)
include hs in
theorem aAy {i j:Nat}(z:i<j) (h:j<l.length):l.getD i 0<=l.getD j 0:=by
  rw[aGb,aGb,aFW h,aFW pT];exact(aGr.1 hs) i j pT h z
end
abbrev eD:tI:=([],([],([],([],([],(0,([],())))))))
def JF (es:List tI) (i:Nat):Bool:=((es.take i).any fun y=>decide (y.1=(es.getD i eD).1))|| !yE (es.getD i eD)
def AP (c:C4):Bool:=((yC c.1&&wS c.2.1)&&wB c.2.2.1)&&(decide ((c.2.2.2.1.length:Int)<=1000)&& !((List.range c.2.2.2.1.length).any (JF c.2.2.2.1)))
theorem a1k {c:C4}(h:AP c=true) {i:Nat}(hi:i<c.2.2.2.1.length):yE (c.2.2.2.1.getD i eD)=true:=by
  unfold AP at h;simp only[aF0,aGj,aGA,aHv] at h;have:=h.2.2 i hi;unfold JF at this;simp only[aHo,aGj,not_or,Bool.not_eq_false] at this;exact this.2
theorem a1l {l:pP}(h: ∀b∈l,b.toNat<128):validD l=true:=by
  rw[validD_ascii l.length l (fun b hb=>h b (mem_of_mem_take hb)),aGN];rfl
theorem aAz {b:UInt8}(h:yZ b.toNat=false):b.toNat<128:=by
  unfold yZ at h;simp only[aHJ,aHu,aF0,aFY] at h;omega
theorem Hj {x:pP}(h:v7 x=true):sX x=true:=by
  cases x with
  |nil=>cases h
  | cons b t=>
    unfold v7 at h;simp only[aF0,aGj,aGA,aGZ,aGu] at h;obtain⟨⟨h0,z⟩,D⟩:=h;unfold sX;rw[aF0,aFY];refine⟨by simp only[aFV];omega,a1l fun c j=>?_⟩;rcases aF1.1 j with rfl|j
    . unfold A7 at z
      simp only[aF0,aFY] at z;omega
    exact aAz (D c j)
theorem HE {l:pQ}(h:wS l=true):l.length<=20/\∀x∈l,sX x=true:=by
  unfold wS at h;simp only[aF0,aGj,aGA,aFY,aGZ,aHu] at h;exact⟨pT,fun x j=>by simpa using h.2 x j⟩
theorem Hk {α:Type}{r:α->α->Prop}(tr: ∀a b c,r a b->r b c->r a c) {l:List α}(h: ∀(i:Nat) (hi:i+1<l.length),r l[i] l[i+1]):l.Pairwise r:=by
  rw[aGr];intro i j hi z D;obtain⟨k,rfl⟩: ∃k,j=i+1+k:=⟨j-i-1,pT⟩
  induction k with
  |zero=>exact h i z
  |succ k ih=>exact tr _ _ _ (ih pT pT) (h (i+1+k) z)
theorem FY {α:Type}{l:List α}{i:Nat}{d:α}(h:i<l.length):l.getD i d=l[i]:=by
  rw[aGb,aFW h];rfl
theorem az {l:pQ}(h:CV l=true):l.length<=20/\(∀x∈l,v7 x=true)/\l.Pairwise (· < ·):=by
  unfold CV at h;simp only[aF0,aGj,aGA,aFY,aHv,aGZ] at h;obtain⟨j,D⟩:=h;unfold U8 at j;simp only[aHb,aHJ,aHu,aGu] at j;refine⟨pT,fun x z=>?_,Hk (r:=fun a b:pP=>a<b) (fun a b c=>List.lt_trans) fun i hi=>?_⟩
  . obtain⟨i,hi,rfl⟩:=aHA z
    have:=(j i hi).1;rwa [FY hi] at this
  have:=(j (i+1) hi).2
  rw[FY hi,Nat.add_sub_cancel,FY (show i<l.length by omega),HD] at this;exact aGt (this.resolve_left pT)
theorem HF {l:List t6}(h:wB l=true):l.length<=20/\(∀x∈l,v7 x.1=true/\sX x.1=true/\sX x.2.1=true)/\l.Pairwise (fun a b=>a.1<b.1):=by
  unfold wB at h;simp only[aF0,aGj,aGA,aFY,aHv,aGZ] at h;obtain⟨j,D⟩:=h;unfold U9 at j;simp only[aHb,aHJ,aHu,aGu] at j;refine⟨pT,fun x z=>?_,Hk (r:=fun a b:t6=>a.1<b.1) (fun a b c=>List.lt_trans) fun i hi=>?_⟩
  . obtain⟨i,hi,rfl⟩:=aHA z
    have:=(j i hi).1;rw[FY hi] at this;exact⟨this.1,Hj this.1,this.2⟩
  have:=(j (i+1) hi).2
  rw[FY hi,Nat.add_sub_cancel,FY (show i<l.length by omega),HD] at this;exact aGt (this.resolve_left pT)
theorem aAA {es:List tI}(h: ∀i,i<es.length->JF es i=false):es.Pairwise (fun a b=>a.1≠b.1):=by
  rw[aGr];intro i j hi D F E;have z:=h j D;unfold JF at z;simp only[aHb,aGA,aFY] at z;rw[FY D] at z;exact z.1 es[i] (by rw[mem_take_iff_getElem];exact⟨i,pT,rfl⟩) E
theorem UG {c:C4}(h:AP c=true):yC c.1=true/\wS c.2.1=true/\wB c.2.2.1=true/\c.2.2.2.1.length<=1000/\(∀x∈c.2.2.2.1,yE x=true)/\c.2.2.2.1.Pairwise (fun a b=>a.1≠b.1):=by
  have j:=h;unfold AP at j;simp only[aF0,aGj,aGA,aHv,aFY,aGZ] at j;obtain⟨⟨⟨F,E⟩,h3⟩,h4,D⟩:=j;refine⟨F,E,h3,pT,fun x z=>?_,aAA D⟩;obtain⟨i,hi,rfl⟩:=aHA z;have:=a1k h hi;rwa [FY hi] at this
theorem bc {a b:pP}(h: ¬a<b) (hne:a≠b):b<a:=by
  have:=Gx a b;rw[HD,HD] at this;have z:decide (a<b)=false:=by simpa using h
  have j:decide (b=a)=false:=by simpa using fun e=>hne e.symm
  rw[z,j] at this;simpa using this.symm
theorem Hl {α:Type}(f:α->pP) {x:α}{p:α->Bool}: ∀{l:List α},l.Pairwise (fun a b=>f a<f b)->(∀y∈l,f y≠f x)->(∀y∈l,p y= !decide (f y<f x))->
    (l.take ((l.findIdx? p).getD l.length)++[x]++l.drop ((l.findIdx? p).getD l.length)).Pairwise (fun a b=>f a<f b)
  |[],_,_,_=>by simp
  | a::t,hp,hne,z=>by
    rw[aHS] at hp;have D:=z a aGa;rw[aHs];by_cases h:f a<f x
    . have F:p a=false:=by rw[D];simpa using h
      rw[F];have ih:=Hl f (x:=x) hp.2 (fun y j=>hne y (aF2 _ j)) (fun y j=>z y (aF2 _ j))
      have e:((if false=true then some 0 else(t.findIdx? p).map fun i=>i+1).getD (a::t).length)=(t.findIdx? p).getD t.length+1:=by
        cases t.findIdx? p<;>rfl
      rw[e,take_succ_cons,aHO,cons_append,cons_append,aHS];refine⟨fun y j=>?_,ih⟩;rw[aF3] at j;rcases aGE.1 j with j|j
      .exact hp.1 y (mem_of_mem_take j)
      rcases aF1.1 j with rfl|j
      .exact h
      exact hp.1 y (mem_of_mem_drop j)
    have E:p a=true:=by rw[D];simpa using h
    rw[E];have G:f x<f a:=bc h (hne a aGa);show ([]++[x]++(a::t)).Pairwise _;rw[nil_append,aHH,aHS];refine⟨fun y j=>?_,aHS.2 hp⟩;rcases aF1.1 j with rfl|j
    .exact G
    exact List.lt_trans G (hp.1 y j)
theorem aAB {α:Type}{l:List α}{x y:α}{k:Nat}(h:y∈l.take k++[x]++l.drop k):y=x\/y∈l:=by
  rw[aF3] at h;rcases aGE.1 h with h|h
  .exact .inr (mem_of_mem_take h)
  rcases aF1.1 h with h|h
  .exact .inl h
  exact .inr (mem_of_mem_drop h)
theorem aAC {α:Type}{l:List α}{x:α}{k:Nat}:(l.take k++[x]++l.drop k).length=l.length+1:=by
  simp only[aFR,aGy,aGp,aG2];omega
theorem aAD {α:Type}{r:α->α->Prop}{l:List α}(h:l.Pairwise r) {i:Nat}(h0:0<i) (hi:i<l.length):r l[i-1] l[i]:=by
  rw[aGr] at h;exact h (i-1) i pT hi pT
theorem a1m {l:List t6}(h:l.length<=20) (j: ∀x∈l,v7 x.1=true/\sX x.2.1=true) (hp:l.Pairwise (fun a b=>a.1<b.1)):wB l=true:=by
  unfold wB;simp only[aF0,aGj,aGA,aFY,aHv,aGZ];refine⟨fun i hi=>?_,pT⟩;unfold U9;obtain⟨a,b⟩:=j _ (aGG hi);rw[FY hi,a,b];by_cases h0:0<i
  . rw[FY (show i-1<l.length by omega),HD]
    simp [aAD hp h0 hi]
  simp [h0]
theorem aAE {l:List t6}{n v:pP}(h:wB l=true) (hl: ¬20<=l.length) (D:v7 n=true) (E:sX v=true) (F: ¬(l.any fun y=>decide (y.1=n))=true):wB (yD l n v)=true:=by
  obtain⟨I,z,h3⟩:=HF h;have hne: ∀y∈l,y.1≠n:=fun y j e=>F (any_eq_true.2 ⟨y,j,by simp [e]⟩)
  have G:z6 l n=none:=by
    unfold z6;rw[aGM];intro y j;simpa using hne y j
  unfold yD;rw[G];show wB (l.take (v8 l n)++[(n,v,())]++l.drop (v8 l n))=true;unfold v8;refine a1m (by rw[aAC];omega) (fun y j=>?_) (Hl (fun y:t6=>y.1) (x:=(n,v,())) h3 hne fun y j=>?_)
  . rcases aAB j with rfl|j
    .exact⟨D,E⟩
    exact⟨(z y j).1,(z y j).2.2⟩
  rw[HD]
  have:decide (y.1=n)=false:=by simpa using hne y j
  rw[this,Bool.or_false]
structure OC (es:List tI):Prop where
  len:es.length<=1000
  ok: ∀x∈es,yE x=true
  pw:es.Pairwise (fun a b=>a.1≠b.1)
section
variable {s:pP}(hsm:s.length<=4000000000) {bad:Int}{ends:pZ}{tag:pP}{cms:pQ}{fds:List t6}{es:List tI}
include hsm
omit hsm in
theorem Hm {c:C4}(D:yC c.1=true) (z:wS c.2.1=true) (h3:wB c.2.2.1=true) (h4:OC c.2.2.2.1):AP c=true:=by
  unfold AP;rw[D,z,h3,aGx (show ((c.2.2.2.1.length:Int))<=1000 by have:=h4.len;omega)];simp only[Bool.true_and,aGj,aGA,aHv,aGZ];intro i hi;unfold JF;rw[FY hi,h4.ok _ (aGG hi)];simp only[Bool.not_true,Bool.or_false,aGA,aFY];intro y h;rw[mem_take_iff_getElem] at h;obtain⟨j,E,rfl⟩:=h;exact aGr.1 h4.pw j i pT hi pT
end
theorem C9 {x:pP}(h:sX x=true):x.length<=4000:=by
  unfold sX at h;simp only[aF0,aFY] at h;omega
structure Hn (x:tI):Prop where
  id:x.1.length<=4000
  src:x.2.1.length<=4000
  tgt:x.2.2.1.length<=4000
  com:x.2.2.2.1.length<=20/\∀y∈x.2.2.2.1,y.length<=4000
  flg:x.2.2.2.2.1.length<=20/\∀y∈x.2.2.2.2.1,y.length<=4000
  fld:x.2.2.2.2.2.2.1.length<=20/\∀y∈x.2.2.2.2.2.2.1,y.1.length<=4000/\y.2.1.length<=4000
theorem a1n {x:tI}(h:yE x=true):Hn x:=by
  have I:=h;unfold yE at I;simp only[aF0] at I;obtain⟨⟨⟨⟨⟨⟨⟨⟨hne,M⟩,K⟩,D⟩,z⟩,G⟩,E⟩,_⟩,F⟩:=I;obtain⟨c1,c2⟩:=HE G;obtain⟨f1,f2,f3⟩:=az E;obtain⟨g1,g2,g3⟩:=HF F;exact⟨C9 K,C9 D,C9 z,⟨c1,fun y j=>C9 (c2 y j)⟩,⟨f1,fun y j=>C9 (Hj (f2 y j))⟩,⟨g1,fun y j=>⟨C9 (g2 y j).2.1,C9 (g2 y j).2.2⟩⟩⟩
theorem a1o {c:C4}(h:AP c=true):NX c c=some ()/\((((decide (c.1=c.1))&&(val (xO c.2.1 c.2.1)))&&(val (B8 c.2.2.1 c.2.2.1)))&&(val (FL c.2.2.2.1 c.2.2.2.1)))=true:=by
  obtain⟨E,D,h3,h4,z,_⟩:=UG h;have f2:sE c.2.1:=by have:=(HE D).1;unfold sE;omega
  have f3:sE c.2.2.1:=by have:=(HF h3).1;unfold sE;omega
  have f4:sE c.2.2.2.1:=by unfold sE;omega
  have f5: ∀y∈c.2.2.2.1,Hg y:=fun y j=>by
    have hs:=a1n (z y j);exact⟨by have:=hs.com.1;unfold sE;omega,by have:=hs.flg.1;unfold sE;omega,by have:=hs.fld.1;unfold sE;omega⟩
  constructor
  . unfold NX TF
    rw[QO _ f2,av _ f3,a1i _ f4 f5];rw[aFP QM,aFP QM,aFT,aFP QM]
  rw[QO _ f2,av _ f3,a1i _ f4 f5]
  simp [val]
noncomputable section
abbrev Wd:=Bool×pP×Unit
def tY (b:UInt8):Bool:=([32,9]:pP).contains b
def u7 (b:UInt8):Bool:= !([32,9,34]:pP).contains b
theorem aAF (s:pP):trimLeftS s ([32,9]:pP)=s.dropWhile tY:=rfl
theorem a1p (b:UInt8):tY b=true↔b=32\/b=9:=by simp [tY]
theorem Ho (b:UInt8):u7 b=true↔b≠32/\b≠9/\b≠34:=by simp [u7]
theorem bd {b:UInt8}(h:tY b=false) (j:b≠34):u7 b=true:=by
  rw[Ho];have: ¬(b=32\/b=9):=fun e=>by rw[(a1p b).2 e] at h;cases h
  exact⟨fun e=>this (.inl e),fun e=>this (.inr e),j⟩
theorem aAG {b:UInt8}(h:u7 b=false) (z:b≠34):tY b=true:=by
  cases j:tY b with
  |true=>rfl
  |false=>rw[bd j z] at h;cases h
theorem UH {α:Type}(p:α->Bool) (l:List α):(l.dropWhile p).length<=l.length:=(dropWhile_suffix p).length_le
theorem OD {α:Type}{p:α->Bool}: ∀{l:List α}{b:α}{t:List α},l.dropWhile p=b::t->p b=false
  |[],_,_,h=>by cases h
  | a::l,b,t,h=>by
    rw[dropWhile_cons] at h;cases j:p a with
    |true=>rw[aFP j] at h;exact OD h
    |false=>rw[aFQ (by simp [j])] at h;cases h;exact j
theorem a1q {α:Type}{p:α->Bool}: ∀(l:List α),∀x∈l.takeWhile p,p x=true
  |[],_,h=>by cases h
  | a::l,x,h=>by
    rw[takeWhile_cons] at h;cases j:p a with
    | true=>
      rw[aFP j] at h;rcases aF1.1 h with rfl|h
      .exact j
      .exact a1q l x h
    |false=>rw[aFQ (by simp [j])] at h;cases h
def FZ:pP->Bool
  |[]=>true
  |b::_=>tY b
def BC (s:pP):Option (Wd×pP):=
  if s.head? =some 34 then
    match uH 34 (s.drop 1) with
    |none=>none
    |some k=>if (xE 2 ((s.drop 1).take k)).2.2=0/\sX (xE 2 ((s.drop 1).take k)).1=true/\FZ (s.drop (k+2))=true then some ((true,(xE 2 ((s.drop 1).take k)).1,()),s.drop (k+2)) else none
  else if (s.dropWhile u7).head? =some 34 then none else some ((false,s.takeWhile u7,()),s.dropWhile u7)
def yF:Nat->pP->Option (List Wd)
  |0,_=>none
  | n+1,s=>if s.dropWhile tY=[] then some [] else match BC (s.dropWhile tY) with
    |none=>none
    |some w=>(yF n w.2).map (w.1:: ·)
def HG (s:pP):Option (List Wd):=yF (s.length+1) s
theorem Hp {b:UInt8}{t:pP}{w:Wd}{r:pP}(z:tY b=false) (h:BC (b::t)=some (w,r)):r.length<(b::t).length:=by
  unfold BC at h;split at h
  . split at h
    .cases h
    rename_i k D
    split at h
    . cases h
      rw[aGp];simp only[aFV];omega
    cases h
  rename_i j
  split at h
  .cases h
  cases h
  have hb:u7 b=true:=bd z fun e=>j (by rw[e];rfl);rw[dropWhile_cons,aFP hb];have:=UH u7 t;simp only[aFV];omega
def BD (n:Nat) (w:Wd):Prop:=if w.1=true then sX w.2.1=true else w.2.1.length<=n/\(∀b∈w.2.1,u7 b=true)/\w.2.1≠[]
theorem aAH {b:UInt8}{t:pP}{w:Wd}{r:pP}(F:tY b=false) (h:BC (b::t)=some (w,r)):BD (b::t).length w/\FZ r=true:=by
  unfold BC at h;split at h
  . split at h
    .cases h
    split at h
    . rename_i E
      cases h;exact⟨by unfold BD;rw[aFP rfl];exact E.2.1,E.2.2⟩
    cases h
  rename_i z
  split at h
  .cases h
  rename_i D
  cases h;have hb:u7 b=true:=bd F fun e=>z (by rw[e];rfl);refine⟨?_,?_⟩
  . unfold BD
    rw[aFQ pV];exact⟨(takeWhile_prefix _).length_le,fun x j=>a1q _ x j,by rw[takeWhile_cons,aFP hb];simp⟩
  cases j:(b::t).dropWhile u7 with
  |nil=>rfl
  | cons c u=>
    rw[j] at D;exact aAG (OD j) fun e=>D (by rw[e];rfl)
theorem a1r: ∀t:pP,indexAny t [32,9,34]=if t.dropWhile u7=[] then-1 else((t.takeWhile u7).length:Int)
  |[]=>rfl
  | b::t=>by
    rw[indexAny,a1r t,dropWhile_cons,takeWhile_cons];cases j:([32,9,34]:pP).contains b with
    | true=>
      have:u7 b=false:=by unfold u7;rw[j];rfl
      simp [this]
    | false=>
      have:u7 b=true:=by unfold u7;rw[j];rfl
      rw[aFQ pV,aFP this,aFP this];by_cases h:t.dropWhile u7=[]
      . rw[aFP h,aFP h]
        rfl
      rw[aFQ h,aFQ h,aFQ (by simp only[aHr];omega)]
      simp
theorem a1s {t:pP}{p:UInt8->Bool}:t.take (t.takeWhile p).length=t.takeWhile p/\t.drop (t.takeWhile p).length=t.dropWhile p:=by
  have h:t.takeWhile p++t.dropWhile p=t:=takeWhile_append_dropWhile;exact⟨(aGd (List.take _) h.symm).trans (take_left' rfl),(aGd (List.drop _) h.symm).trans (drop_left' rfl)⟩
theorem aAI {t:pP}{p:UInt8->Bool}(h:t.dropWhile p=[]):t.takeWhile p=t:=by
  have:=takeWhile_append_dropWhile (p:=p) (l:=t);rw[h,append_nil] at this;exact this
theorem aAJ (x:pP):((decide ((([34]:pP).length:Int)<=(x.length:Int)))&&(decide ((sG x (0:Int) (([34]:pP).length:Int))=([34]:pP))))=decide (x.head? =some 34):=by
  cases x with
  |nil=>rfl
  | cons b t=>
    have h:sG (b::t) 0 (([34]:pP).length:Int)=[b]:=rfl;rw[h];have j:decide ((([34]:pP).length:Int)<=((b::t).length:Int))=true:=aGx (by simp only[aFV,aF8];omega);rw[j,Bool.true_and];simp
theorem aAK (x p:pP):Q2 x p=some ():=by
  unfold Q2 PV;rw[aFP (fun h=>by simp only[aHr,aFY] at h;omega)];rfl
theorem aAL (r:pP):(((!decide (r=([]:pP)))&&(!decide ((sK r (0:Int))=(32:Int))))&&(!decide ((sK r (0:Int))=(9:Int))))= !FZ r:=by
  cases r with
  |nil=>rfl
  | cons b t=>
    have hb:sK (b::t) 0=(b.toNat:Int):=rfl;rw[hb,DZ (n:=32) 32 rfl,DZ (n:=9) 9 rfl];show ((!decide (b::t=[])&& !decide (b=32))&& !decide (b=9))= !tY b;rw[decide_eq_false pV];unfold tY;by_cases j:b=32
    .subst j;rfl
    by_cases h:b=9
    .subst h;rfl
    simp [j,h]
theorem Hq {s:pP}(hs:s.length<=1100000000): ∃v,DX (s,(false,()))=some v/\
    (s.dropWhile tY=[]->v=(false,[],false,[],false))/\
    (s.dropWhile tY≠[]->match BC (s.dropWhile tY) with
      |some w=>v=(w.1.1,w.1.2.1,true,w.2,false)
      |none=>v.2.2.1=false/\v.2.2.2.2=true):=by
  have hl:=UH tY s;obtain⟨t,F⟩: ∃t,s.dropWhile tY=t:=⟨_,rfl⟩;rw[F] at hl;unfold DX;dsimp only;rw[show trimLeftS s ([32,9]:pP)=t from F,F];cases t with
  |nil=>exact⟨_,aFP rfl,fun _=>rfl,fun h=>absurd rfl h⟩
  | cons b u=>
    have hg:=OD F;simp only[aFV] at hl;rw[aFQ pV,aFP ⟨pT,by simp only[aFV];omega⟩];have hb:sK (b::u) 0=(b.toNat:Int):=rfl;by_cases j:b=34
    . subst j
      rw[aFQ (by rw[hb];simp),aFP ⟨pT,by simp only[aFV];omega,aGO _⟩]
      have Z:sG ((34:UInt8)::u) 1 (((34:UInt8)::u).length:Int)=u:=by
        rw[show ((1:Int))=((1:Nat):Int) from rfl,O8];rfl
      have U:sE u:=by unfold sE;omega
      rw[Z,show ((34:Int))=(((34:UInt8).toNat:Nat):Int) from rfl,aAc pU pU u 34 U,aFT]
      have I:BC ((34:UInt8)::u)=match uH 34 u with
        |none=>none
        |some k=>if (xE 2 (u.take k)).2.2=0/\sX (xE 2 (u.take k)).1=true/\FZ (u.drop (k+1))=true then some ((true,(xE 2 (u.take k)).1,()),u.drop (k+1)) else none:=by
        unfold BC;rw[aFP (show ((34:UInt8)::u).head? =some 34 from rfl)];rfl
      rw[I];cases hk:uH 34 u with
      | none=>
        rw[aFP qI];exact⟨_,rfl,fun h=>(by cases h),fun _=>⟨rfl,rfl⟩⟩
      | some k=>
        have hd:=al _ _ _ (aGc _) hk;have E:sE (u.take k):=by unfold sE;rw[aGy];omega
        have Y:sG ((34:UInt8)::u) 1 ((k:Int)+1)=u.take k:=by
          unfold sG;rw[show ((k:Int)+1).toNat=k+1 by omega];rfl
        have X:sG ((34:UInt8)::u) ((k:Int)+2) (((34:UInt8)::u).length:Int)=u.drop (k+1):=by
          rw[show ((k:Int)+2)=((k+2:Nat):Int) by omega,O8];rfl
        rw[show OB (some k)=(k:Int) from rfl,aFQ pV,aFP (show qR ((k:Int)+1) by unfold qR;omega),aFP ⟨pT,pT,by simp only[aFV];omega⟩];rw[Y,aAp pU pU E,aFT,aFP (show qR ((k:Int)+2) by unfold qR;omega),aFP ⟨pT,by simp only[aFV];omega,aGO _⟩];rw[X]
        have V:sE (xE 2 (u.take k)).1:=by
          have:=a1h 2 (u.take k);unfold sE at E|-;omega
        rw[aFP (fun _=>by rw[OA _ V];rfl)]
        have z: ∀q:Bool,(q&&(!decide (u.drop (k+1)=([]:pP)))==true)=true->0<=(0:Int)/\(0:Int)<((u.drop (k+1)).length:Int):=fun q hq=>by
          simp only[aF0,aHr,aGj,aGu] at hq;have:=aGH.2 hq.2;omega
        rw[aFP (z _),aFP (fun hq=>z true (by
          simp only[aF0,aHr,aGj,aGu] at hq|-;exact⟨trivial,hq.2.1⟩))]
        simp only[aAL];refine⟨_,rfl,fun h=>(by cases h),fun _=>?_⟩;have Q:((decide ((List.length (xE 2 (u.take k)).1:Int)<=(4000:Int)))&&(validD (xE 2 (u.take k)).1))=sX (xE 2 (u.take k)).1:=rfl;simp only[Q];by_cases G:(xE 2 (u.take k)).2.2=0/\sX (xE 2 (u.take k)).1=true/\FZ (u.drop (k+1))=true
        . rw[aFP G]
          obtain⟨O,M,h3⟩:=G;simp [O,M,h3]
        rw[aFQ G]
        have:((!decide ((xE 2 (u.take k)).2.2=0))||(!sX (xE 2 (u.take k)).1)|| !FZ (u.drop (k+1)))=true:=by
          cases O:decide ((xE 2 (u.take k)).2.2=0)<;>cases M:sX (xE 2 (u.take k)).1<;>cases h3:FZ (u.drop (k+1))<;>first|rfl|exact absurd ⟨aGt O,M,h3⟩ G
        exact⟨by simp only[this];rfl,this⟩
    have hp:u7 b=true:=bd hg j
    rw[aFP (by rw[hb,DZ (n:=34) 34 rfl];simp [j]),aFP (by simp only[aFV];omega)]
    have I:BC (b::u)=if ((b::u).dropWhile u7).head? =some 34 then none else some ((false,(b::u).takeWhile u7,()),(b::u).dropWhile u7):=by
      unfold BC;rw[aFQ (by simp [j])]
    rw[I];have R:PL (b::u) ([32,9,34]:pP)=if (b::u).dropWhile u7=[] then-1 else(((b::u).takeWhile u7).length:Int):=a1r _
    have hx:(if (decide (PL (b::u) ([32,9,34]:pP)<(0:Int)))=true then some (((b::u).length:Int)) else some (PL (b::u) ([32,9,34]:pP)))=(some (((b::u).takeWhile u7).length:Int)):=by
      rw[R];by_cases K:(b::u).dropWhile u7=[]
      .rw[aFP K,aFP qI,aAI K]
      rw[aFQ K,aFQ pV]
    have ha:((b::u).takeWhile u7).length<=(b::u).length:=(takeWhile_prefix _).length_le;rw[hx];unfold uS;rw[aFT,aFP ⟨aGO _,pT,pT⟩,aFP ⟨pT,pT,aGO _⟩,O8,a01,a1s.1,a1s.2,aAK,aFT];simp only[aAJ];refine⟨_,rfl,fun h=>(by cases h),fun _=>?_⟩;by_cases D:((b::u).dropWhile u7).head? =some 34
    . rw[aFP D]
      exact⟨by simp [D],by simp [D]⟩
    rw[aFQ D]
    simp [D]
end
noncomputable section
theorem aAM (n:Nat):yF (n+1) []=some []:=aFP rfl
theorem a1t: ∀(n:Nat) (s:pP) (out:List Wd) (v:Bool×pP×Bool×pP×Bool),s.length<n->s.length+out.length<=1100000000->DX (s,(false,()))=some v->
    ∃ r,sA QE (out,v.2.2.1,v.2.2.2.1,v.2.2.2.2,v.1,v.2.1)=some r/\match yF n s with
      |some l=>r.1=out++l/\r.2.2=false
      |none=>r.2.2=true
  |0,s,out,v,h,_,_=>by omega
  | n+1,s,out,v,h,hl,I=>by
    obtain⟨v',F,M,K⟩:=Hq (s:=s) pT;rw[I] at F;cases F;rw[yF];by_cases z:s.dropWhile tY=[]
    . rw[aFP z,M z,vB]
      refine⟨(out,[],false),?_,by simp,rfl⟩;unfold QE;dsimp only;rw[aFQ pV,aFT]
    rw[aFQ z]
    have hm:=K z;cases hw:BC (s.dropWhile tY) with
    | none=>
      rw[hw] at hm;obtain⟨h3,h4⟩:v.2.2.1=false/\v.2.2.2.2=true:=hm;rw[vB];refine⟨(out,v.2.2.2.1,v.2.2.2.2),?_,h4⟩;unfold QE;dsimp only;rw[h3,aFQ pV,aFT]
    | some w=>
      rw[hw] at hm;have hm:v=(w.1.1,w.1.2.1,true,w.2,false):=hm;subst hm;cases G:s.dropWhile tY with
      |nil=>exact absurd G z
      | cons b t=>
        rw[G] at hw;have O:=Hp (OD G) hw;have hle:=UH tY s;rw[G] at hle;obtain⟨v2,E,_,_⟩:=Hq (s:=w.2) pT;obtain⟨r,hr,j⟩:=a1t n w.2 (out++[w.1]) v2 pT (by rw[aFR];simp only[aFV,aF8];omega) E;refine⟨r,?_,?_⟩
        . rw[vB]
          unfold QE;dsimp only;rw[aFP rfl,aFP (by simp only[aFV,aF8];omega),E,aFT,aFT];exact hr
        show match (yF n w.2).map (w.1:: ·) with|some l=>r.1=out++l/\r.2.2=false|none=>r.2.2=true
        cases D:yF n w.2 with
        |none=>rw[D] at j;exact j
        | some l=>
          rw[D] at j;obtain⟨h3,h4⟩:r.1=(out++[w.1])++l/\r.2.2=false:=j;exact⟨by rw[h3,aF3];rfl,h4⟩
theorem a1u {s:pP}(hs:s.length<=1100000000): ∃r,FT s=some r/\match HG s with
    |some l=>r=(l,true)
    |none=>r.2=false:=by
  obtain⟨v,h,_,_⟩:=Hq hs;obtain⟨r,hr,hm⟩:=a1t (s.length+1) s [] v pT (by simpa using hs) h;refine⟨(r.1,!r.2.2),?_,?_⟩
  . unfold FT
    rw[h,aFT];unfold uS;rw[hr,aFT]
  unfold HG
  cases hw:yF (s.length+1) s with
  | none=>
    rw[hw] at hm;have hm:r.2.2=true:=hm;show (!r.2.2)=false;rw[hm];rfl
  | some l=>
    rw[hw] at hm;obtain⟨z,j⟩:r.1=[]++l/\r.2.2=false:=hm;show (r.1,!r.2.2)=(l,true);rw[z,j];rfl
theorem bg: ∀(n:Nat) (s:pP) (l:List Wd),yF n s=some l->∀w∈l,BD s.length w
  |0,_,_,h=>by cases h
  | n+1,s,l,h=>by
    rw[yF] at h;split at h
    .cases h;intro w hw;cases hw
    split at h
    .cases h
    rename_i w hw
    cases z:s.dropWhile tY with
    |nil=>rename_i h0 _;exact absurd z h0
    | cons b t=>
      rw[z] at hw;have F:=Hp (w:=w.1) (r:=w.2) (OD z) hw;have E:=(aAH (w:=w.1) (r:=w.2) (OD z) hw).1;have hle:=UH tY s;rw[z] at hle
      have mono: ∀{a b:Nat}{x:Wd},a<=b->BD a x->BD b x:=fun G j=>by
        unfold BD at j|-;split
        .rename_i D;rw[aFP D] at j;exact j
        rename_i D;rw[aFQ D] at j;exact⟨pT,j.2⟩
      cases hl:yF n w.2 with
      |none=>rw[hl] at h;cases h
      | some l'=>
        rw[hl] at h;cases h;intro x j;rcases aF1.1 j with rfl|j
        .exact mono hle E
        exact mono pT (bg n w.2 l' hl x j)
theorem a1v: ∀(n:Nat) (s:pP) (l:List Wd),yF n s=some l->s.dropWhile tY≠[]->l≠[]
  |0,_,_,h,_=>by cases h
  | n+1,s,l,h,hne=>by
    rw[yF,aFQ hne] at h;split at h
    .cases h
    rename_i w hw
    cases hl:yF n w.2 with
    |none=>rw[hl] at h;cases h
    |some l'=>rw[hl] at h;cases h;simp
end
noncomputable section
abbrev tW:Ty:= .pair .bool (.pair .str .unit)
def E5:pP:=[99,97,116,97,108,111,103]
def HH:pP:=[101,110,116,114,121]
def w5:pP:=[99,111,109,109,101,110,116]
def uK:pP:=[115,111,117,114,99,101]
def uL:pP:=[116,97,114,103,101,116]
def xR:pP:=[115,116,97,116,101]
def wT:pP:=[102,105,101,108,100]
def OE:pP:=[101,110,100]
def wZ:pP:=[102,108,97,103,115]
inductive wC where
  |bad
  |cont (t:pP)
  |beg (head:Bool) (t:pP)
  |com (t:pP)
  |src (t:pP)
  |tgt (t:pP)
  |sta (v:Int)
  |fld (n v:pP)
  |flg (l:pQ)
  |fin
def tZ:List Wd->Option pP
  |[w]=>if w.1=true then some w.2.1 else none
  |_=>none
def G0:List Wd->Option Int
  |[w]=>if w.1=false/\0<=A8 w.2.1 then some (A8 w.2.1) else none
  |_=>none
def G1:List Wd->Option (pP×pP)
  |[a,b]=>if (a.1=true/\b.1=true)/\v7 a.2.1=true then some (a.2.1,b.2.1) else none
  |_=>none
def tD (l:List Wd):pQ:=l.map (·.2.1)
def G2 (w:Wd):Bool:=w.1|| !v7 w.2.1
def vP (k:pP) (r:List Wd):wC:=
  if k=E5 then((tZ r).map (wC.beg true)).getD .bad
  else if k=HH then((tZ r).map (wC.beg false)).getD .bad
  else if k=w5 then((tZ r).map wC.com).getD .bad
  else if k=uK then((tZ r).map wC.src).getD .bad
  else if k=uL then((tZ r).map wC.tgt).getD .bad
  else if k=xR then((G0 r).map wC.sta).getD .bad
  else if k=wT then((G1 r).map fun q=>wC.fld q.1 q.2).getD .bad
  else if k=OE then(if r=[] then .fin else .bad)
  else if k=wZ then(if r=[]\/(r.any G2)=true then .bad else .flg (tD r))
  else .bad
def zQ:List Wd->wC
  |[]=> .bad
  |w::r=>if w.1=true then(if (r.any fun x=> !x.1)=true then .bad else .cont (tD (w::r)).flatten) else vP w.2.1 r
theorem UI {l:List Wd}{i:Nat}(h:i<l.length):qV tW l (i:Int)=l[i]:=EQ h
theorem aAN (w:Wd) (r:List Wd):((decide (((w::r).length:Int)=(2:Int)))&&(qV tW (w::r) (1:Int)).1)=(tZ r).isSome:=by
  match r with
  |[]=>rfl
  | [a]=>
    show (true&&a.1)=_;unfold tZ;cases h:a.1<;>simp [h]
  | a::b::t=>
    have:decide (((w::a::b::t).length:Int)=2)=false:=decide_eq_false (by simp only[aFV];omega);rw[this];rfl
def CA (l:pQ):Bool:=decide ((compact (tX l)).length<(tX l).length)
theorem a1w {l:pQ}(h:CA l=false):(tX l).Pairwise (· < ·):=by
  unfold CA at h;have F: ¬(compact (tX l)).length<(tX l).length:=of_decide_eq_false h;generalize hs:tX l=s at F;have j:s.Pairwise (·<=·):=by rw[<-hs];exact Hf l
  have E:((List.range s.length).filter (keeps s.toArray)).length=(List.range s.length).length:=by
    have h3:(compact s).length=((List.range s.length).filter (keeps s.toArray)).length:=by
      unfold compact compactUpTo;rw[aGV]
    have h4:=length_filter_le (keeps s.toArray) (List.range s.length);rw[length_range] at h4|-;omega
  have h3:=length_filter_eq_length_iff.1 E;refine Hk (r:=fun a b:pP=>a<b) (fun a b c=>List.lt_trans) fun i hi=>?_;have D:=h3 (i+1) (aHv.2 hi)
  have hne:s[i+1]≠s[i]:=by
    intro e
    have:=keeps_neg (d:=s.toArray) (m:=i+1) pT (by
      rw[Nat.add_sub_cancel,getElem!_pos s.toArray (i+1) (by simpa using hi),getElem!_pos s.toArray i pW];simpa using e)
    rw[this] at D;cases D
  have hle:s[i]<=s[i+1]:=aGr.1 j i (i+1) pT hi pT;exact bc (a:=s[i+1]) (b:=s[i]) (fun z=>hle z) hne
theorem aAO {l:pQ}(h:l.Pairwise (· < ·)):tX l=l:=by
  have j:l.Pairwise (·<=·):=h.imp fun D z=>List.lt_irrefl _ (List.lt_trans D z);have hp:=UE l;exact hp.eq_of_pairwise (fun a b _ _ E j=>List.le_antisymm E j) (Hf l) j
theorem a1x {l:pQ}(h:l.Pairwise (· < ·)):l.Nodup:=h.imp fun j e=>by subst e;exact List.lt_irrefl _ j
theorem aAP {l:pQ}(h:l.Nodup):(tX l).Pairwise (· < ·):=by
  have G:(tX l).Nodup:=(UE l).nodup_iff.2 h;have F:=Hf l;rw[aGr] at F|-;intro i j hi E z
  exact bc (fun D=>F i j hi E z D) fun e=>by
    have:=(nodup_iff_pairwise_ne.1 G);rw[aGr] at this;exact this i j hi E z e.symm
theorem aAQ (l:pQ):CA l=false↔l.Nodup:=by
  constructor
  . intro h
    exact(UE l).nodup_iff.1 (a1x (a1w h))
  intro h
  have E:=aAP h;unfold CA
  have:compact (tX l)=tX l:=compact_all (tX l) fun j z=>by
    cases j with
    |zero=>simp [keeps]
    | succ j=>
      refine keeps_pos ?_;rw[Nat.add_sub_cancel,getElem!_pos (tX l).toArray (j+1) (by simpa using z),getElem!_pos (tX l).toArray j pW];intro e;have D:=aGr.1 E j (j+1) pT z pT;simp only[getElem_toArray] at e;rw[e] at D;exact List.lt_irrefl _ D
  rw[this];exact decide_eq_false (aHz _)
end
noncomputable section
structure St where
  c:C4
  ends:pZ
  id:pP
  sc:pP
  tg:pP
  cm:pQ
  fg:pQ
  sv:Int
  fd:List t6
  op:Bool
  bs:Bool
  bt:Bool
  bh:Bool
  bf:Bool
  last:pP
  name:pP
abbrev St.x (s:St):sQ:=(s.id,(s.sc,(s.tg,(s.cm,(s.fg,(s.sv,(s.fd,())))))))
def yG (s:St) (c:C4) (t:pP):St:=⟨c,s.ends,t,[],[],[],[],0,[],true,false,false,false,false,[],[]⟩
def tS (c:C4) (ends:pZ):St:=⟨c,ends,[],[],[],[],[],0,[],false,false,false,false,false,[],[]⟩
def AQ (s:St):pP:=if s.last=w5 then s.cm.getLastD [] else if s.last=uK then s.sc else if s.last=uL then s.tg else(JB s.fd s.name).1
def x6 (s:St) (z:pP):St:=
  if s.last=w5 then {s with cm:=s.cm.dropLast++[z]} else if s.last=uK then {s with sc:=z} else if s.last=uL then {s with tg:=z} else {s with fd:=yD s.fd s.name z}
def rQ (s:St) (next:Int):wC->Int×St
  | .bad=>(3,s)
  | .cont t=>if s.op=false\/s.last=[] then(3,s) else if sX (AQ s++t)=true then(0,x6 s (AQ s++t)) else(3,s)
  | .beg true t=>if s.op=true\/s.ends≠[] then(3,s) else if yC t=true then(0,yG s (t,s.c.2) t) else(3,s)
  | .beg false t=>if s.op=true\/s.ends=[] then(3,s) else if t=[]\/200<t.length then(3,s) else if (s.c.2.2.2.1.any fun y=>decide (y.1=t))=true then(9,s) else if 1000<=s.c.2.2.2.1.length then(6,s) else(0,yG s s.c t)
  | .com t=>if s.op=false then(3,s) else if 20<=s.cm.length then(6,s) else(0,{s with cm:=s.cm++[t],last:=w5,name:=[]})
  | .src t=>if s.op=false\/s.ends=[] then(3,s) else if s.bs=true then(9,s) else(0,{s with sc:=t,bs:=true,last:=uK,name:=[]})
  | .tgt t=>if s.op=false\/s.ends=[] then(3,s) else if s.bt=true then(9,s) else(0,{s with tg:=t,bt:=true,last:=uL,name:=[]})
  | .sta v=>if s.op=false\/s.ends=[] then(3,s) else if s.bh=true then(9,s) else(0,{s with sv:=v,bh:=true,last:=[],name:=[]})
  | .flg l=>if s.op=false\/s.ends=[] then(3,s) else if s.bf=true\/CA l=true then(9,s) else if 20<l.length then(6,s) else(0,{s with fg:=tX l,bf:=true,last:=[],name:=[]})
  | .fld n v=>if s.op=false then(3,s) else if (s.fd.any fun y=>decide (y.1=n))=true then(9,s) else if 20<=s.fd.length then(6,s) else(0,{s with fd:=yD s.fd n v,last:=wT,name:=n})
  | .fin=>if s.op=false then(3,s) else(0,tS (if s.ends=[] then(s.c.1,(s.cm,(s.fd,s.c.2.2.2))) else(s.c.1,(s.c.2.1,(s.c.2.2.1,(s.c.2.2.2.1++[s.x],()))))) (s.ends++[next]))
def BE (s:pP):Bool:=decide (s.dropWhile tY=[])||decide ((s.dropWhile tY).head? =some 35)
def tM (s:St) (line:pP) (next:Int):Int×St:=
  if BE line=true then(0,s) else match HG line with
    |none=>(3,s)
    |some l=>rQ s next (zQ l)
structure xF (s:St):Prop where
  tag:s.ends≠[]\/s.op=true->yC s.c.1=true
  hcm:wS s.c.2.1=true
  hfd:wB s.c.2.2.1=true
  es:OC s.c.2.2.2.1
  e0:s.ends=[]->s.c.2.2.2.1=[]
  en:s.ends≠[]->s.ends.length=s.c.2.2.2.1.length+1
  room:s.op=true->s.ends≠[]->s.c.2.2.2.1.length<1000
  sc:sX s.sc=true
  tg:sX s.tg=true
  cm:wS s.cm=true
  fg:CV s.fg=true
  sv:0<=s.sv/\s.sv<=4
  fd:wB s.fd=true
  id:s.op=true->s.ends≠[]->s.id≠[]/\s.id.length<=200/\sX s.id=true/\∀y∈s.c.2.2.2.1,y.1≠s.id
  lcm:s.last=w5->s.cm≠[]
  lfd:s.last=wT->(s.fd.any fun y=>decide (y.1=s.name))=true
  lst:s.last=[]\/s.last=w5\/s.last=uK\/s.last=uL\/s.last=wT
  off:s.op=false->s.last=[]
def bm (n:Nat):wC->Prop
  | .cont t=>t.length<=n
  | .beg _ t=>sX t=true
  | .com t=>sX t=true
  | .src t=>sX t=true
  | .tgt t=>sX t=true
  | .sta v=>0<=v/\v<=4
  | .fld n v=>v7 n=true/\sX v=true
  | .flg l=>l≠[]/\l.length<=n/\∀x∈l,v7 x=true
  |_=>True
theorem aAR (s:pP):A8 s<=4:=by
  unfold A8;cases h:wR.findIdx? fun x=>decide (x=s) with
  |none=>show (-1:Int)<=4;decide
  | some k=>
    have:=(aGW.1 h).1;show (k:Int)<=4;unfold wR at this;simp only[aFV,aF8] at this;omega
theorem UJ: ∀(n:Nat) (s:pP) (l:List Wd),yF n s=some l->(tD l).flatten.length<=s.length/\l.length<=s.length
  |0,_,_,h=>by cases h
  | n+1,s,l,h=>by
    rw[yF] at h;split at h
    .cases h;exact⟨aGS _,aGS _⟩
    split at h
    .cases h
    rename_i h0 _ w hw
    cases j:s.dropWhile tY with
    |nil=>exact absurd j h0
    | cons b t=>
      rw[j] at hw;have D:=OD j;have hle:=UH tY s;rw[j] at hle;have G:=Hp (w:=w.1) (r:=w.2) D hw
      have hs:w.1.2.1.length+w.2.length<=(b::t).length:=by
        unfold BC at hw;split at hw
        . split at hw
          .cases hw
          rename_i k z
          split at hw
          . cases hw
            have F:=a1h 2 (((b::t).drop 1).take k);have E:=al _ _ _ (aGc _) z;show (xE 2 (((b::t).drop 1).take k)).1.length+((b::t).drop (k+2)).length<=(b::t).length;simp only[aGy,aGp,aFV] at F E|-;omega
          cases hw
        split at hw
        .cases hw
        cases hw
        have:=aGd List.length (takeWhile_append_dropWhile (p:=u7) (l:=b::t));rw[aFR] at this;exact aHn this
      cases hl:yF n w.2 with
      |none=>rw[hl] at h;cases h
      | some l'=>
        rw[hl] at h;cases h;have ih:=UJ n w.2 l' hl;constructor
        . show (w.1.2.1++(tD l').flatten).length<=_
          rw[aFR];omega
        rw[aFV];omega
theorem a1y {n:Nat}{r:List Wd}{t:pP}(h: ∀w∈r,BD n w) (ho:tZ r=some t):sX t=true:=by
  unfold tZ at ho;split at ho
  . rename_i w
    split at ho
    . rename_i hw
      cases ho;have:=h w pV;unfold BD at this;rw[aFP hw] at this;exact this
    cases ho
  cases ho
theorem aAS {n:Nat}{l:List Wd}(h: ∀w∈l,BD n w) (I:(tD l).flatten.length<=n) (G:l.length<=n):bm n (zQ l):=by
  cases l with
  |nil=>exact trivial
  | cons w r=>
    have hr: ∀w∈r,BD n w:=fun x z=>h x (aF2 _ z);unfold zQ;dsimp only;split
    . split
      .exact trivial
      exact I
    unfold vP
    have one: ∀(f:pP->wC),(∀t,sX t=true->bm n (f t))->bm n (((tZ r).map f).getD .bad):=fun f hf=>by
      cases ho:tZ r with
      |none=>exact trivial
      |some t=>exact hf t (a1y hr ho)
    split
    .exact one _ fun t j=>j
    split
    .exact one _ fun t j=>j
    split
    .exact one _ fun t j=>j
    split
    .exact one _ fun t j=>j
    split
    .exact one _ fun t j=>j
    split
    . cases ho:G0 r with
      |none=>exact trivial
      | some v=>
        unfold G0 at ho;split at ho
        . split at ho
          . rename_i D
            cases ho;exact⟨D.2,aAR _⟩
          cases ho
        cases ho
    split
    . cases ho:G1 r with
      |none=>exact trivial
      | some q=>
        unfold G1 at ho;split at ho
        . rename_i a b
          split at ho
          . rename_i D
            cases ho;have hb:=hr b pV;unfold BD at hb;rw[aFP D.1.2] at hb;exact⟨D.2,hb⟩
          cases ho
        cases ho
    split
    .split<;>exact trivial
    split
    . split
      .exact trivial
      rename_i E
      simp only[not_or,aGZ] at E;refine⟨by unfold tD;simpa using E.1,by unfold tD;rw[aGV];simp only[aFV] at G;omega,fun x z=>?_⟩;unfold tD at z;obtain⟨w',F,rfl⟩:=mem_map.1 z;have:=aGA.1 E.2 w' F;unfold G2 at this;simpa using(fun h=>this (by rw[h];simp): ¬(!v7 w'.2.1)=true)
    exact trivial
end
noncomputable section
theorem aAT {l:pQ}(h:wS l=true):l.length<=20:=(HE h).1
theorem a1z {l:List t6}(h:wB l=true):l.length<=20:=(HF h).1
theorem aAU {l:List t6}{n:pP}(h:wB l=true):sX (JB l n).1=true:=by
  unfold JB;cases z:z6 l n with
  |none=>rfl
  | some k=>
    have j:=ac z;show sX (l.getD k ([],[],())).2.1=true;rw[aGb,aFW j];exact((HF h).2.1 _ (aGG j)).2.2
theorem aAV {s:St}(h:xF s):sX (AQ s)=true:=by
  unfold AQ;split
  . have j:=HE h.cm
    cases hl:s.cm.getLast? with
    |none=>rw[getLastD_eq_getLast?,hl];rfl
    |some x=>rw[getLastD_eq_getLast?,hl];exact j.2 x (mem_of_getLast? hl)
  split
  .exact h.sc
  split
  .exact h.tg
  exact aAU h.fd
end
noncomputable section
theorem aAW {α:Type}{l:List α}:decide ((l.length:Int)=0)=decide (l=[]):=by cases l<;>simp<;>omega
theorem a1A {s:St}(h:xF s):s.ends.length<=1001:=by
  have:=h.es.len;by_cases j:s.ends=[]
  .rw[j];exact aGS _
  rw[h.en j];omega
end
noncomputable section
theorem UK {l:List t6}{n v:pP}(h:(l.any fun y=>decide (y.1=n))=false):yD l n v=l.take (v8 l n)++[(n,v,())]++l.drop (v8 l n):=by
  have:z6 l n=none:=by
    unfold z6;rw[aGM];intro x j;have:=aGA.1 h x j;simpa using this
  unfold yD;rw[this];rfl
theorem a1B (l:List t6) (n v:pP):((yD l n v).any fun y=>decide (y.1=n))=true:=by
  unfold yD;cases j:z6 l n with
  | none=>
    show ((l.take (v8 l n)++[(n,v,())]++l.drop (v8 l n)).any _)=true;rw[any_append,any_append];simp
  | some k=>
    have h:=ac j;show ((l.set k (n,v,())).any _)=true;rw[any_eq_true];exact⟨(n,v,()),mem_set h _,by simp⟩
theorem aAX {l:List t6}{n v:pP}(h:wB l=true) (R:(l.any fun y=>decide (y.1=n))=true) (Q:sX v=true):wB (yD l n v)=true:=by
  obtain⟨U,I,h3⟩:=HF h;unfold yD;cases D:z6 l n with
  | none=>
    unfold z6 at D;rw[aGM] at D;obtain⟨x,z,K⟩:=any_eq_true.1 R;have:=D x z;rw[K] at this;cases this
  | some k=>
    have E:=ac D;have F:=a9W D E;show wB (l.set k (n,v,()))=true;refine a1m (by rw[length_set];exact U) (fun x z=>?_) ?_
    . rcases mem_or_eq_of_mem_set z with z|rfl
      .exact⟨(I x z).1,(I x z).2.2⟩
      exact⟨by show v7 n=true;rw[<-F];exact(I _ (aGG E)).1,Q⟩
    rw[aGr] at h3|-
    intro i j hi G O;rw[length_set] at hi G
    have e: ∀m (hm:m<l.length),((l.set k (n,v,()))[m]'(by rw[length_set];exact hm)).1=(l[m]).1:=fun m hm=>by
      rw[getElem_set];split
      .rename_i M;subst M;exact F.symm
      rfl
    rw[e i hi,e j G];exact h3 i j hi G O
theorem aAY {l:pQ}{t:pP}(h:wS l=true) (hl:l.length<20) (z:sX t=true):wS (l++[t])=true:=by
  obtain⟨_,D⟩:=HE h;unfold wS;rw[aGx (by rw[aFR];simp only[aFV,aF8];omega),Bool.true_and,aGj,any_append];have:(l.any fun x=> !sX x)=false:=aGA.2 fun x j=>by rw[D x j];simp
  rw[this];simp [z]
theorem aAZ {l:pQ}{t:pP}(h:wS l=true) (hl:l≠[]) (D:sX t=true):wS (l.dropLast++[t])=true:=by
  obtain⟨F,E⟩:=HE h;have j:=aGH.2 hl;unfold wS;rw[aGx (by rw[aFR,length_dropLast];simp only[aFV,aF8];omega),Bool.true_and,aGj,any_append];have:(l.dropLast.any fun x=> !sX x)=false:=aGA.2 fun x z=>by rw[E x (dropLast_subset _ z)];simp
  rw[this];simp [D]
theorem aA0 {l:pQ}(hl:l.length<=20) (D: ∀x∈l,v7 x=true) (z:l.Pairwise (· < ·)):CV l=true:=by
  unfold CV;rw[aGx pT,Bool.and_true,aGj];rw[aGA];intro i hi;have hi:=aHv.1 hi;unfold U8;have j:l.getD i []=l[i]:=by rw[aGb,aFW hi];rfl
  rw[j,D _ (aGG hi)];by_cases h0:0<i
  . have h:l.getD (i-1) []=l[i-1]:=by rw[aGb,aFW pT];rfl
    rw[h,HD,aGx (aGr.1 z (i-1) i pT hi pT)];simp
  simp [h0]
theorem aA1 {s:St}(h:xF s) (z:s.op=true) (j:s.ends≠[]):yE s.x=true:=by
  obtain⟨i1,i2,i3,_⟩:=h.id z j;unfold yE;dsimp only[St.x];rw[decide_eq_false i1,aGx (show (s.id.length:Int)<=200 by omega),i3,h.sc,h.tg,h.cm,h.fg,aGx h.sv.1,aGx h.sv.2,h.fd];rfl
theorem vS:w5≠[]/\uK≠[]/\uL≠[]/\wT≠[]/\uK≠w5/\uL≠w5/\wT≠w5/\w5≠wT/\uK≠wT/\uL≠wT:=by decide
theorem a1C (s:St) (z:pP):(x6 s z).c=s.c/\(x6 s z).ends=s.ends/\(x6 s z).id=s.id/\(x6 s z).fg=s.fg/\(x6 s z).sv=s.sv/\(x6 s z).op=s.op/\(x6 s z).bs=s.bs/\(x6 s z).bt=s.bt/\(x6 s z).bh=s.bh/\(x6 s z).bf=s.bf/\(x6 s z).last=s.last/\(x6 s z).name=s.name:=by
  unfold x6;split
  .exact⟨rfl,rfl,rfl,rfl,rfl,rfl,rfl,rfl,rfl,rfl,rfl,rfl⟩
  split
  .exact⟨rfl,rfl,rfl,rfl,rfl,rfl,rfl,rfl,rfl,rfl,rfl,rfl⟩
  split<;>exact⟨rfl,rfl,rfl,rfl,rfl,rfl,rfl,rfl,rfl,rfl,rfl,rfl⟩
theorem aA2 {s:St}(h:xF s) (hl:s.last≠[]) {z:pP}(D:sX z=true):xF (x6 s z):=by
  unfold x6;split
  . rename_i E
    exact {h with cm:=aAZ h.cm (h.lcm E) D,lcm:=fun _=>pV}
  split
  .exact {h with sc:=D}
  split
  .exact {h with tg:=D}
  rename_i E F h3
  have h4:s.last=wT:=by
    rcases h.lst with j|j|j|j|j
    .exact absurd j hl
    .exact absurd j E
    .exact absurd j F
    .exact absurd j h3
    exact j
  exact {h with fd:=aAX h.fd (h.lfd h4) D,lfd:=fun _=>a1B _ _ _}
theorem sv0:0<=(0:Int)/\(0:Int)<=4:=by decide
theorem aA3 {s:St}(h:xF s) {n:Nat}{c:wC}(G:bm n c) (next:Int) (h0:(rQ s next c).1=0):xF (rQ s next c).2:=by
  cases c with
  |bad=>cases h0
  | cont t=>
    rw[rQ] at h0|-;split at h0
    .cases h0
    . rename_i z
      rw[aFQ z];rw[not_or] at z;split at h0
      . rename_i D
        rw[aFP D];exact aA2 h z.2 D
      .cases h0
  | beg M t=>
    cases M with
    | true=>
      rw[rQ] at h0|-;split at h0
      .cases h0
      . rename_i z
        rw[aFQ z];simp only[not_or,Decidable.not_not] at z;split at h0
        . rename_i D
          rw[aFP D];exact {tag:=fun _=>D,hcm:=h.hcm,hfd:=h.hfd,es:=h.es,e0:=h.e0,en:=h.en,room:=fun _ j=>absurd z.2 j,sc:=rfl,tg:=rfl,cm:=rfl,fg:=rfl,sv:=sv0,fd:=rfl,id:=fun _ j=>absurd z.2 j,lcm:=fun j=>(vS.1 j.symm).elim,lfd:=fun j=>(vS.2.2.2.1 j.symm).elim,lst:= .inl rfl,off:=fun j=>(by cases j)}
        .cases h0
    | false=>
      rw[rQ] at h0|-;split at h0
      .cases h0
      . rename_i z
        rw[aFQ z];rw[not_or] at z;split at h0
        .cases h0
        . rename_i D
          rw[aFQ D];rw[not_or] at D;split at h0
          .cases h0
          . rename_i h3
            rw[aFQ h3];split at h0
            .cases h0
            . rename_i h4
              rw[aFQ h4];refine {tag:=fun _=>h.tag (.inl z.2),hcm:=h.hcm,hfd:=h.hfd,es:=h.es,e0:=h.e0,en:=h.en,room:=fun _ _=>(by show s.c.2.2.2.1.length<1000;omega),sc:=rfl,tg:=rfl,cm:=rfl,fg:=rfl,sv:=sv0,fd:=rfl,id:=fun _ _=>⟨D.1,(by show t.length<=200;omega),G,fun y O e=>h3 (any_eq_true.2 ⟨y,O,aGx (show y.1=t from e)⟩)⟩,lcm:=fun j=>(vS.1 j.symm).elim,lfd:=fun j=>(vS.2.2.2.1 j.symm).elim,lst:= .inl rfl,off:=fun j=>(by cases j)}
  | com t=>
    rw[rQ] at h0|-;split at h0
    .cases h0
    . rename_i z
      rw[aFQ z];split at h0
      .cases h0
      . rename_i D
        rw[aFQ D];exact {h with cm:=aAY h.cm pT G,lcm:=fun _=>pV,lfd:=fun j=>(vS.2.2.2.2.2.2.2.1 j).elim,lst:= .inr (.inl rfl),off:=fun j=>absurd j z}
  | src t=>
    rw[rQ] at h0|-;split at h0
    .cases h0
    . rename_i z
      rw[aFQ z];rw[not_or] at z;split at h0
      .cases h0
      . rename_i D
        rw[aFQ D];exact {h with sc:=G,lcm:=fun j=>(vS.2.2.2.2.1 j).elim,lfd:=fun j=>(vS.2.2.2.2.2.2.2.2.1 j).elim,lst:= .inr (.inr (.inl rfl)),off:=fun j=>absurd j z.1}
  | tgt t=>
    rw[rQ] at h0|-;split at h0
    .cases h0
    . rename_i z
      rw[aFQ z];rw[not_or] at z;split at h0
      .cases h0
      . rename_i D
        rw[aFQ D];exact {h with tg:=G,lcm:=fun j=>(vS.2.2.2.2.2.1 j).elim,lfd:=fun j=>(vS.2.2.2.2.2.2.2.2.2 j).elim,lst:= .inr (.inr (.inr (.inl rfl))),off:=fun j=>absurd j z.1}
  | sta v=>
    rw[rQ] at h0|-;split at h0
    .cases h0
    . rename_i z
      rw[aFQ z];rw[not_or] at z;split at h0
      .cases h0
      . rename_i D
        rw[aFQ D];exact {h with sv:=G,lcm:=fun j=>(vS.1 j.symm).elim,lfd:=fun j=>(vS.2.2.2.1 j.symm).elim,lst:= .inl rfl,off:=fun _=>rfl}
  | fld m v=>
    rw[rQ] at h0|-;split at h0
    .cases h0
    . rename_i z
      rw[aFQ z];split at h0
      .cases h0
      . rename_i D
        rw[aFQ D];split at h0
        .cases h0
        . rename_i h3
          rw[aFQ h3];exact {h with fd:=aAE h.fd h3 G.1 G.2 D,lcm:=fun j=>(vS.2.2.2.2.2.2.1 j).elim,lfd:=fun _=>a1B _ _ _,lst:= .inr (.inr (.inr (.inr rfl))),off:=fun j=>absurd j z}
  | flg l=>
    rw[rQ] at h0|-;split at h0
    .cases h0
    . rename_i z
      rw[aFQ z];rw[not_or] at z;split at h0
      .cases h0
      . rename_i D
        rw[aFQ D];rw[not_or] at D;split at h0
        .cases h0
        . rename_i h3
          rw[aFQ h3];have M:CA l=false:=by simpa using D.2
          exact {h with fg:=aA0 (by rw[UF];omega) (fun x K=>G.2.2 x ((UE l).mem_iff.1 K)) (a1w M),lcm:=fun j=>(vS.1 j.symm).elim,lfd:=fun j=>(vS.2.2.2.1 j.symm).elim,lst:= .inl rfl,off:=fun _=>rfl}
  | fin=>
    rw[rQ] at h0|-;split at h0
    .cases h0
    rename_i z
    have F:s.op=true:=by simpa using z
    rw[aFQ z];have I:=h.tag (.inr F);by_cases j:s.ends=[]
    . rw[aFP j]
      exact {tag:=fun _=>I,hcm:=h.cm,hfd:=h.fd,es:=h.es,e0:=fun E=>(by simp [tS] at E),en:=fun _=>(by show (s.ends++[next]).length=s.c.2.2.2.1.length+1;rw[j,h.e0 j];rfl),room:=fun E=>(by cases E),sc:=rfl,tg:=rfl,cm:=rfl,fg:=rfl,sv:=sv0,fd:=rfl,id:=fun E=>(by cases E),lcm:=fun E=>(vS.1 E.symm).elim,lfd:=fun E=>(vS.2.2.2.1 E.symm).elim,lst:= .inl rfl,off:=fun _=>rfl}
    rw[aFQ j]
    have hr:=h.room F j;obtain⟨i1,i2,i3,i4⟩:=h.id F j;refine {tag:=fun _=>I,hcm:=h.hcm,hfd:=h.hfd,es:=⟨?_,?_,?_⟩,e0:=fun E=>(by simp [tS] at E),en:=fun _=>?_,room:=fun E=>(by cases E),sc:=rfl,tg:=rfl,cm:=rfl,fg:=rfl,sv:=sv0,fd:=rfl,id:=fun E=>(by cases E),lcm:=fun E=>(vS.1 E.symm).elim,lfd:=fun E=>(vS.2.2.2.1 E.symm).elim,lst:= .inl rfl,off:=fun _=>rfl}
    . show (s.c.2.2.2.1++[s.x]).length<=1000
      rw[aFR];simp only[aFV,aF8];omega
    . intro x K
      rcases aGE.1 (show x∈s.c.2.2.2.1++[s.x] from K) with K|K
      .exact h.es.ok x K
      rw[aF7.1 K];exact aA1 h F j
    . show (s.c.2.2.2.1++[s.x]).Pairwise _
      rw[aHL];exact⟨h.es.pw,aHR _ _,fun a Q b hb=>by rw[aF7.1 hb];exact i4 a Q⟩
    show (s.ends++[next]).length=(s.c.2.2.2.1++[s.x]).length+1
    rw[aFR,aFR,h.en j];rfl
def tG:St:=tS ([],([],([],([],())))) []
theorem Hr:xF tG:={tag:=fun h=>h.elim (fun h=>absurd rfl h) fun h=>(by cases h),hcm:=rfl,hfd:=rfl,es:=⟨aGS _,fun x j=>(by cases j),List.Pairwise.nil⟩,e0:=fun _=>rfl,en:=fun h=>absurd rfl h,room:=fun h=>(by cases h),sc:=rfl,tg:=rfl,cm:=rfl,fg:=rfl,sv:=sv0,fd:=rfl,id:=fun h=>(by cases h),lcm:=fun h=>(vS.1 h.symm).elim,lfd:=fun h=>(vS.2.2.2.1 h.symm).elim,lst:= .inl rfl,off:=fun _=>rfl}
theorem bn {s:St}(h:xF s) (line:pP) (next:Int) (h0:(tM s line next).1=0):xF (tM s line next).2:=by
  unfold tM at h0|-;split at h0
  . rename_i j
    rw[aFP j];exact h
  rename_i j
  rw[aFQ j];cases hw:HG line with
  |none=>rw[hw] at h0;cases h0
  | some l=>
    rw[hw] at h0;exact aA3 h (aAS (n:=line.length) (bg _ _ _ hw) (UJ _ _ _ hw).1 (UJ _ _ _ hw).2) next h0
end
noncomputable section
theorem aA4 (s:St) (n:Int) (t:pP):(rQ s n (.cont t)).2.c=s.c/\(rQ s n (.cont t)).2.ends=s.ends/\(rQ s n (.cont t)).2.id=s.id/\(rQ s n (.cont t)).2.fg=s.fg/\(rQ s n (.cont t)).2.sv=s.sv/\(rQ s n (.cont t)).2.op=s.op/\(rQ s n (.cont t)).2.bs=s.bs/\(rQ s n (.cont t)).2.bt=s.bt/\(rQ s n (.cont t)).2.bh=s.bh/\(rQ s n (.cont t)).2.bf=s.bf/\(rQ s n (.cont t)).2.last=s.last/\(rQ s n (.cont t)).2.name=s.name:=by
  rw[rQ];split
  .exact⟨rfl,rfl,rfl,rfl,rfl,rfl,rfl,rfl,rfl,rfl,rfl,rfl⟩
  split
  .exact a1C s _
  exact⟨rfl,rfl,rfl,rfl,rfl,rfl,rfl,rfl,rfl,rfl,rfl,rfl⟩
def tV (p:pP):pP:=if p.getLast? =some 10 then p.dropLast else p
theorem QR {r:List Wd}{t:pP}(h:tZ r=some t):r=[(true,t,())]:=by
  unfold tZ at h;split at h
  . rename_i w
    split at h
    . rename_i hw
      cases h;obtain⟨a,b,c⟩:=w;cases hw;rfl
    cases h
  cases h
theorem a1D {k:pP}{r:List Wd}{t:pP}(ho:tZ r=some t):
    vP E5 r= .beg true t/\vP HH r= .beg false t/\vP w5 r= .com t/\vP uK r= .src t/\vP uL r= .tgt t:=by
  have e1:HH≠E5/\w5≠E5/\uK≠E5/\uL≠E5/\w5≠HH/\uK≠HH/\uL≠HH/\uK≠w5/\uL≠w5/\uL≠uK:=by decide
  obtain⟨a1,a2,a3,a4,a5,a6,a7,a8,a9,a10⟩:=e1;refine⟨?_,?_,?_,?_,?_⟩<;>unfold vP
  .rw[aFP rfl,ho];rfl
  .rw[aFQ a1,aFP rfl,ho];rfl
  .rw[aFQ a2,aFQ a5,aFP rfl,ho];rfl
  .rw[aFQ a3,aFQ a6,aFQ a8,aFP rfl,ho];rfl
  rw[aFQ a4,aFQ a7,aFQ a9,aFQ a10,aFP rfl,ho];rfl
end
noncomputable section
def tN (s:pP) (i:Nat):Nat:=if 0<=indexByte (s.drop i) 10 then i+(indexByte (s.drop i) 10).toNat+1 else s.length
theorem UL {s:pP}{i:Nat}(h:i<s.length):i<tN s i/\tN s i<=s.length:=by
  have hr:=PH (s.drop i) 10;rw[aGp] at hr;unfold tN;split<;>omega
theorem aA5 {s:pP}{a i:Nat}(E:a<=i) (hi:i<s.length) (z: ∀j (h:j<s.length),a<=j->j<i->s[j]≠10) (D:s[i]=10):((s.drop a).findIdx? fun b=>decide (b=10))=some (i-a):=by
  rw[aGW];refine⟨by rw[aGp];omega,?_,fun j F=>?_⟩
  . rw[getElem_drop]
    simp only[aFY];rw[<-D];congr 1;omega
  rw[getElem_drop]
  simp only[aFY];exact z (a+j) pT pT pT
theorem aA6 {s:pP}{a:Nat}(z: ∀j (h:j<s.length),a<=j->s[j]≠10):((s.drop a).findIdx? fun b=>decide (b=10))=none:=by
  rw[aGM];intro x D;obtain⟨j,E,rfl⟩:=aHA D;rw[getElem_drop];simp only[aGu];rw[aGp] at E;exact z (a+j) pT pT
theorem aA7 {s:pP}{a i:Nat}(D:a<=i) (hi:i<s.length) (z: ∀j (h:j<s.length),a<=j->j<i->s[j]≠10) (E:s[i]=10):tN s a=i+1:=by
  unfold tN;rw[He,aA5 D hi z E];rw[show OB (some (i-a))=((i-a:Nat):Int) from rfl,aFP pT,aGI];omega
theorem aA8 {s:pP}{a:Nat}(z: ∀j (h:j<s.length),a<=j->s[j]≠10):tN s a=s.length:=by
  unfold tN;rw[He,aA6 z];exact aFQ pU
def G3 (s:pP) (a:Nat):pP:=(s.drop a).take (tN s a-a)
def CB (s:pP):Nat->St->Nat->(Nat×Int)⊕St
  |0,st,_=> .inr st
  | n +1,st,a=>if a<s.length then
      (if (tM st (tV (G3 s a)) (tN s a:Nat)).1=0 then CB s n (tM st (tV (G3 s a)) (tN s a:Nat)).2 (tN s a) else .inl (a,(tM st (tV (G3 s a)) (tN s a:Nat)).1))
    else .inr st
def CC (s:pP):(Nat×Int)⊕St:=match CB s (s.length+1) tG 0 with
  | .inl q=> .inl q
  | .inr st=>if st.op=true\/st.ends=[] then .inl (s.length,3) else .inr st
theorem a1E {s:pP}: ∀(n:Nat) (st:St) (a:Nat) {st':St},xF st->CB s n st a= .inr st'->xF st'
  |0,st,a,st',h,e=>by cases e;exact h
  | n+1,st,a,st',h,e=>by
    rw[CB] at e;split at e
    . split at e
      . rename_i h0
        exact a1E n _ _ (bn h _ _ h0) e
      cases e
    cases e;exact h
end
noncomputable section
def G4 (l:List t6):List t6:=l.foldl (fun acc f=>yD acc f.1 f.2.1) []
theorem QS (l:List t6) (n v:pP):G4 (l++[(n,v,())])=yD (G4 l) n v:=by
  unfold G4;rw[foldl_append];rfl
theorem aA9 {l:List t6}{n v:pP}(h:(l.any fun y=>decide (y.1=n))=false):(yD l n v).Perm (l++[(n,v,())]):=by
  rw[UK h];have z:(l.take (v8 l n)++l.drop (v8 l n))=l:=aG1 _ _
  have j:(l.take (v8 l n)++[(n,v,())]++l.drop (v8 l n)).Perm (l.take (v8 l n)++(l.drop (v8 l n)++[(n,v,())])):=by
    rw[aF3];exact List.Perm.append_left _ perm_append_comm
  have h3:l.take (v8 l n)++(l.drop (v8 l n)++[(n,v,())])=l++[(n,v,())]:=by rw[<-aF3,z]
  rw[h3] at j;exact j
theorem UM {l l':List t6}(h:l.Perm l') (n:pP):(l.any fun y=>decide (y.1=n))=l'.any fun y=>decide (y.1=n):=h.any_eq
theorem QT {l:List t6}{n v:pP}:((l++[(n,v,())]).map (·.1)).Nodup↔(l.map (·.1)).Nodup/\(l.any fun y=>decide (y.1=n))=false:=by
  rw[map_append,nodup_append];constructor
  . rintro⟨j,_,h3⟩
    refine⟨j,aGA.2 fun x h=>?_⟩;have:=h3 x.1 (mem_map.2 ⟨x,h,rfl⟩) n pV;simpa using this
  rintro⟨j,D⟩
  refine⟨j,by simp,fun a z b hb=>?_⟩;obtain⟨x,h,rfl⟩:=mem_map.1 z;have hb:b=n:=by simpa using hb
  have:=aGA.1 D x h;rw[hb];simpa using this
theorem a1F {α:Type}{P:List α->Prop}(h0:P []) (h: ∀l x,P l->P (l++[x])) (l:List α):P l:=by
  have: ∀n (l:List α),l.length=n->P l:=by
    intro n
    induction n with
    |zero=>intro l hl;rw[aGJ.1 hl];exact h0
    | succ n ih=>
      intro l hl;have hne:l≠[]:=fun e=>by rw[e] at hl;cases hl
      rw[<-dropLast_concat_getLast hne];exact h _ _ (ih _ (by rw[length_dropLast,hl];rfl))
  exact this _ l rfl
theorem QU: ∀l:List t6,(l.map (·.1)).Nodup->(G4 l).Perm l:=by
  refine a1F (fun _=>List.Perm.refl _) fun l x ih h=>?_;obtain⟨n,v,u⟩:=x;obtain⟨z,j⟩:=QT.1 h;rw[QS];have hp:=ih z;exact(aA9 (by rw[UM hp];exact j)).trans (hp.append_right _)
theorem Hs: ∀l:List t6,(l.map (·.1)).Nodup->(G4 l).Pairwise (fun a b=>a.1<b.1):=by
  refine a1F (fun _=>List.Pairwise.nil) fun l x ih h=>?_;obtain⟨n,v,u⟩:=x;obtain⟨D,E⟩:=QT.1 h;rw[QS];have hp:=QU l D;have z:((G4 l).any fun y=>decide (y.1=n))=false:=by rw[UM hp];exact E
  have hne: ∀y∈G4 l,y.1≠n:=fun y j=>by simpa using aGA.1 z y j
  rw[UK z];unfold v8;refine Hl (fun y:t6=>y.1) (x:=(n,v,())) (ih D) hne fun y j=>?_;rw[HD];have:decide (y.1=n)=false:=by simpa using hne y j
  rw[this,Bool.or_false]
theorem a1G {l:List t6}{n v z:pP}(h:(l.any fun y=>decide (y.1=n))=false) (hl:l.Pairwise (fun a b=>a.1<b.1)):yD (yD l n v) n z=yD l n z/\JB (yD l n v) n=(v,true):=by
  have G:v8 l n<=l.length:=a9V l n;have hne: ∀y∈l,y.1≠n:=fun y E=>by simpa using aGA.1 h y E
  have j:(l.take (v8 l n)).length=v8 l n:=by rw[aGy];omega
  have D:z6 (l.take (v8 l n)++[(n,v,())]++l.drop (v8 l n)) n=some (v8 l n):=by
    unfold z6;rw[aF3,List.findIdx?_append]
    have:((l.take (v8 l n)).findIdx? fun x=>decide (x.1=n))=none:=by
      rw[aGM];intro x F;simpa using hne x (mem_of_mem_take F)
    rw[this,j,aHH,aHs];simp
  constructor
  . rw[UK h,UK h]
    unfold yD;rw[D];show (l.take (v8 l n)++[(n,v,())]++l.drop (v8 l n)).set (v8 l n) (n,z,())=_;rw[aF3,set_append_right _ _ pT,j,aHm];simp
  rw[UK h]
  unfold JB;rw[D];show ((((l.take (v8 l n)++[(n,v,())]++l.drop (v8 l n)).getD (v8 l n) ([],[],())).2.1,true):pP×Bool)=(v,true);rw[aGb,aF3,aFZ pT,j,aHm];rfl
theorem aBa {l:List t6}(h:(l.map (·.1)).Nodup) (hl:l.length<=1000):Bs.blocks_sorted l=some (G4 l,l.length):=by
  have I:Bs.slices_Collect_api_Field_api_Field_F1 l=some l:=by
    have D: ∀(m acc:List t6),m.length+acc.length<=1000->Vc.B4 Bs.slices_AppendSeq_api_Field_api_Field_F1_step1 m acc=some (.inl (acc++m)):=by
      intro m
      induction m with
      |nil=>intro acc _;show some (Sum.inl acc)=_;rw[append_nil]
      | cons x m ih=>
        intro acc V;simp only[aFV] at V
        have hst:Bs.slices_AppendSeq_api_Field_api_Field_F1_step1 x acc=some (.inl (acc++[x])):=by
          unfold Bs.slices_AppendSeq_api_Field_api_Field_F1_step1;rw[aFP (by simp only[aFV,aF8];omega)]
        show (Bs.slices_AppendSeq_api_Field_api_Field_F1_step1 x acc).bind _=_;rw[hst,aFT];show Vc.B4 Bs.slices_AppendSeq_api_Field_api_Field_F1_step1 m (acc++[x])=_;rw[ih _ (by rw[aFR];simp only[aFV,aF8];omega),aF3];rfl
    unfold Bs.slices_Collect_api_Field_api_Field_F1 Bs.slices_AppendSeq_api_Field_api_Field_F1;rw[aFP pT];have:=D l [] (by simpa using hl);rw[show SO l=l from rfl,this];unfold uB;rfl
  have hs:vX l=G4 l:=by
    obtain⟨O,M⟩:=Sm l
    have hp:(vX l).Perm l:=by
      have:=O.2.2
      have e1:(vX l).toArray.extract 0 l.length=(vX l).toArray:=by
        rw[show l.length=(vX l).toArray.size from(YJ l).symm];simp
      have e2:l.toArray.extract 0 l.length=l.toArray:=by
        rw[show l.length=l.toArray.size by simp];simp
      rw[e1,e2] at this;simpa using this
    have Q:=QU l h
    have F:(vX l).Pairwise (fun a b=> ¬b.1<a.1):=by
      rw[aGr];intro i j hi E z;have K:=M i j (aGS _) z (by rw[YJ] at E;exact E);rw[getElem!_pos (vX l).toArray i (by simpa using hi),getElem!_pos (vX l).toArray j (by simpa using E)] at K;simp only[getElem_toArray] at K;intro U;unfold ltOf EH at K;exact of_decide_eq_false K ((lx _ _).2 U)
    have R:((vX l).map (·.1)).Nodup:=(hp.map _).nodup_iff.2 h
    have G:(vX l).Pairwise (fun a b=>a.1<b.1):=by
      rw[aGr] at F|-;intro i j hi E z;refine bc (F i j hi E z) fun e=>?_;have:=aGr.1 (nodup_iff_pairwise_ne.1 R) i j (by simpa using hi) (by simpa using E) z;rw[getElem_map,getElem_map] at this;exact this e.symm
    exact(hp.trans Q.symm).eq_of_pairwise (fun a b _ _ O M=>absurd M (List.lt_asymm O)) G (Hs l h)
  unfold Bs.blocks_sorted Bs.slices_SortedFunc_api_Field_api_Field_F1_blocks_sortedF1;rw[I,aFT,aFP pT,aFT,hs]
theorem Ht {l:List Wd}{p:pP}{i:Nat}(h:i<l.length) (hp:i<p.length) (hl:l.length<=10):PU l p (i:Int)=if (l[i].1==decide (p[i]=115))=true then some (.inl ((i:Int)+1)) else some (.inr (.inr false)):=by
  unfold PU;rw[aFP (vI h),aFP (tQ h),aFP (tQ hp),UI h,LD hp,DZ (n:=115) 115 rfl,aFP (w4 pT)];cases(l[i].1==decide (p[i]=115))<;>rfl
theorem a1H {l:List Wd}{p:pP}:PU l p (l.length:Int)=some (.inr (.inl ())):=by
  unfold PU;rw[aFQ (xD _)]
theorem bo (l:List Wd) (c:UInt8):zG l [c]=some (match l with|[a]=>a.1==decide (c=115) |_=>false):=by
  match l with
  |[]=>unfold zG;rfl
  | [a]=>
    unfold zG;rw[aFQ pV,show ((0:Int))=((0:Nat):Int) from rfl,vB,Ht (l:=[a]) (p:=[c]) (i:=0) pV pV pV];show uB (Option.bind (if (a.1==decide (c=115))=true then _ else _) _) _=some (a.1==decide (c=115));cases(a.1==decide (c=115)) with
    |false=>rfl
    | true=>
      rw[aFP rfl,aFT];dsimp only;rw[show (((0:Nat):Int)+1)=(([a]:List Wd).length:Int) from rfl,vB,a1H];rfl
  | a::b::t=>
    unfold zG;rw[aFP (by simp only[aGj,aGu,aFV,aF8];omega)]
theorem aBb (l:List Wd):zG l [115,115]=some (match l with|[a,b]=>a.1&&b.1|_=>false):=by
  match l with
  |[]=>unfold zG;rfl
  |[a]=>unfold zG;rfl
  | [a,b]=>
    unfold zG;rw[aFQ pV,show ((0:Int))=((0:Nat):Int) from rfl,vB,Ht (l:=[a,b]) (p:=[115,115]) (i:=0) pV pV pV];show uB (Option.bind (if (a.1==true)=true then _ else _) _) _=some (a.1&&b.1);cases a.1 with
    |false=>rfl
    | true=>
      rw[aFP (show (true==true)=true from rfl),aFT];dsimp only;rw[show (((0:Nat):Int)+1)=((1:Nat):Int) from rfl,vB,Ht (l:=[a,b]) (p:=[115,115]) (i:=1) pV pV pV];show uB (Option.bind (if (b.1==true)=true then _ else _) _) _=some (true&&b.1);cases b.1 with
      |false=>rfl
      | true=>
        rw[aFP (show (true==true)=true from rfl),aFT];dsimp only;rw[show (((1:Nat):Int)+1)=(([a,b]:List Wd).length:Int) from rfl,vB,a1H];rfl
  | a::b::c::t=>
    unfold zG;rw[aFP (by simp only[aGj,aGu,aFV,aF8];omega)]
theorem Hu (l:List Wd):zG l [115]=some (tZ l).isSome:=by
  rw[bo];unfold tZ
  match l with
  |[]=>rfl
  |[a]=>cases h:a.1<;>simp [h]
  |a::b::t=>rfl
end
noncomputable section
abbrev Mp:=pX
structure Pg where
  c:C4
  pl:Int
  id:pP
  sc:pP
  tg:pP
  fg:pQ
  sv:Int
  ap:Nat
  ends:pZ
  cm:Option pQ
  n1:Nat
  fl:Option (List t6)
  n2:Nat
  seen:Mp
  ids:Mp
def LI (k:pP):Nat:=if k=uK then 1 else if k=uL then 2 else if k=w5 then 3 else if k=wT then 4 else 0
structure ER (s:St) (P:Pg):Prop where
  c:P.c=s.c
  ends:P.ends=s.ends
  pl:P.pl=if s.op=true then(if s.ends=[] then 1 else 3) else(if s.ends=[] then 0 else 2)
  x:s.op=true->P.sc=s.sc/\P.tg=s.tg/\P.fg=s.fg/\P.sv=s.sv/\P.cm=some s.cm
  id:s.op=true->s.ends≠[]->P.id=s.id
  fl:s.op=true->∃l,P.fl=some l/\G4 l=s.fd/\(l.map (·.1)).Nodup/\(s.last=wT->∃l' v,l=l'++[(s.name,v,())])
  ap:P.ap=LI s.last
  seen:s.op=true->sW .str .bool P.seen uK=s.bs/\sW .str .bool P.seen uL=s.bt/\sW .str .bool P.seen xR=s.bh/\sW .str .bool P.seen wZ=s.bf
  ids: ∀t,sW .str .bool P.ids t=((s.c.2.2.2.1.any fun y=>decide (y.1=t))||((s.op&&decide (s.ends≠[]))&&decide (s.id=t)))
  live:s.op=true\/s.ends≠[]
abbrev LJ:=Int×pP×pQ×(List r9)×(List sQ)×Int×pP×pP×pP×pQ×Int×Nat×pZ×pX×(Option pQ)×Nat×(Option (List r9))×Nat×pX
def Hv (v:LJ):Pg:=
  ⟨(v.2.1,(v.2.2.1,(v.2.2.2.1,(v.2.2.2.2.1,())))),v.2.2.2.2.2.1,v.2.2.2.2.2.2.1,v.2.2.2.2.2.2.2.1,v.2.2.2.2.2.2.2.2.1,v.2.2.2.2.2.2.2.2.2.1,v.2.2.2.2.2.2.2.2.2.2.1,v.2.2.2.2.2.2.2.2.2.2.2.1,v.2.2.2.2.2.2.2.2.2.2.2.2.1,v.2.2.2.2.2.2.2.2.2.2.2.2.2.2.1,v.2.2.2.2.2.2.2.2.2.2.2.2.2.2.2.1,v.2.2.2.2.2.2.2.2.2.2.2.2.2.2.2.2.1,v.2.2.2.2.2.2.2.2.2.2.2.2.2.2.2.2.2.1,v.2.2.2.2.2.2.2.2.2.2.2.2.2.2.2.2.2.2,v.2.2.2.2.2.2.2.2.2.2.2.2.2.1⟩
def CW (A:Option LJ) (r:Int×St):Prop:= ∃v,A=some v/\v.1=r.1/\(r.1=0->ER r.2 (Hv v))
theorem vT {A:Option LJ}{e:Int}{s:St}{v:LJ}(h:A=some v) (j:v.1=e) (hne:e≠0):CW A (e,s):=⟨v,h,j,fun h0=>absurd h0 hne⟩
theorem HI {A:Option LJ}{s:St}{v:LJ}(h:A=some v) (j:v.1=0) (hr:ER s (Hv v)):CW A (0,s):=⟨v,h,j,fun _=>hr⟩
theorem UN:LI w5=3:=by decide
theorem UO:LI uK=1:=by decide
theorem UP:LI uL=2:=by decide
theorem UQ:LI wT=4:=by decide
theorem OF:LI []=0:=by decide
theorem a1I {s:St}(h:xF s):LI s.last=0↔s.last=[]:=by
  constructor
  . intro h0
    rcases h.lst with e|e|e|e|e
    .exact e
    .rw[e,UN] at h0;cases h0
    .rw[e,UO] at h0;cases h0
    .rw[e,UP] at h0;cases h0
    rw[e,UQ] at h0;cases h0
  intro h0;rw[h0];exact OF
theorem a1J {l:List Wd}(hl:l.length<=1100000000) {sc tg:pP}{o1:Option pQ}{n1:Nat}{o2:Option (List t6)}{n2:Nat}: ∀(n i:Nat) (a:pP),i+n=l.length->a.length+(tD (l.drop i)).flatten.length<=9000000000000000000->
    sA (Q6 sc tg l o1 n1 o2 n2) (a,(i:Int))=some (if ((l.drop i).any fun x=> !x.1)=true then .inr (3,sc,tg,o1,n1,o2,n2) else .inl (a++(tD (l.drop i)).flatten))
  | 0,i,a,hi,_=>by
    have:i=l.length:=by omega
    subst this;rw[aGN,vB];unfold Q6;dsimp only;rw[aFQ (xD _),aFQ pV];show some (Sum.inl a)=some (Sum.inl (a++[]));rw[append_nil]
  | n+1,i,a,hi,hb=>by
    have h:i<l.length:=by omega
    have j:(tD (l.drop i)).flatten=l[i].2.1++(tD (l.drop (i+1))).flatten:=by
      unfold tD;rw[aGs h,aGU,aGw]
    rw[j,aFR] at hb;rw[vB];generalize z:sA (Q6 sc tg l o1 n1 o2 n2)=F;unfold Q6;dsimp only;rw[aFP (vI h),aFP (tQ h),UI h,j,aGs h,any_cons];cases hq:l[i].1 with
    |false=>rfl
    | true=>
      rw[aFQ pV,aFP (by rw[aFR];omega),aFP (w4 pT),aFT];dsimp only;rw[<-z,show ((i:Int)+1)=((i+1:Nat):Int) by omega,a1J hl n (i+1) _ pT (by rw[aFR];omega),aF3];rfl
def Hw (P:Pg) (l:List Wd):Option LJ:=
    (AO P.c P.pl P.id P.sc P.tg P.fg P.sv P.ap (P.ends,()) l P.cm P.n1 P.fl P.n2 P.seen P.ids).bind fun O=>
    some ((O.1,P.c.1,P.c.2.1,P.c.2.2.1,P.c.2.2.2.1,P.pl,P.id,O.2.1,O.2.2.1,P.fg,P.sv,P.ap,P.ends,P.ids,O.2.2.2.1,O.2.2.2.2.1,O.2.2.2.2.2.1,O.2.2.2.2.2.2,P.seen))
theorem aBc {α:Type}{l:List α}{z:α}(h:l≠[]):l.set (l.length-1) z=l.dropLast++[z]:=by
  have j:=aGH.2 h
  conv=>lhs;rw[<-dropLast_concat_getLast h]
  rw[set_append_right _ _ (by rw[length_dropLast];simp [length_dropLast])];simp [length_dropLast]
theorem aBd {s:St}(h:xF s) {P:Pg}(hr:ER s P) {l:List Wd}(hl:l.length<=1100000000) (ht:(tD l).flatten.length<=1100000000) (next:Int):
    CW (Hw P l) (if (l.any fun x=> !x.1)=true then(3,s) else rQ s next (.cont (tD l).flatten)):=by
  have Y:=C9 (aAV h);have G:=a1J (sc:=P.sc) (tg:=P.tg) (o1:=P.cm) (n1:=P.n1) (o2:=P.fl) (n2:=P.n2) hl l.length 0 [] pT (by rw[aG4,aF8];omega);rw[aG4] at G;unfold Hw AO;rw[show ((0:Int))=((0:Nat):Int) from rfl,G];by_cases O:(l.any fun x=> !x.1)=true
  . rw[aFP O,aFP O]
    exact vT rfl rfl pU
  rw[aFQ O,aFQ O]
  unfold uB;rw[aFT];dsimp only;rw[nil_append];have Z:((3:Int))=3:=rfl;rw[rQ];by_cases j:s.last=[]
  . have E:P.ap=0:=by rw[hr.ap];exact(a1I h).2 j
    rw[aFQ (by rw[E];simp),aFP rfl,aFP (.inr j)];exact vT rfl rfl pU
  have E:P.ap≠0:=fun e=>j ((a1I h).1 (by rw[<-hr.ap];exact e))
  have D:s.op=true:=by
    cases ho:s.op with
    |true=>rfl
    |false=>exact absurd (h.off ho) j
  obtain⟨x1,x2,x3,x4,x5⟩:=hr.x D;obtain⟨fl,f1,f2,f3,f4⟩:=hr.fl D;rw[aFP (by rw[decide_eq_false E];rfl),x5,f1,aFT,aFT,aFQ (by rw[D];simp [j])]
  have M:MC P.ap P.sc P.tg (GE s.cm) (JU fl)=AQ s:=by
    rw[hr.ap,x1,x2];unfold MC AQ;rcases h.lst with e|e|e|e|e
    .exact absurd e j
    . rw[e,UN,aFQ pU,aFQ pU,aFP rfl,aFP rfl]
      unfold GE;have U:=aGH.2 (h.lcm e);rw[aGb,getLastD_eq_getLast?,List.getLast?_eq_getElem?]
    .rw[e,UO,aFP rfl,aFQ pU,aFP rfl]
    .rw[e,UP,aFQ pU,aFP rfl,aFQ pU,aFQ pU,aFP rfl]
    obtain⟨l',v,e2⟩:=f4 e
    rw[e,UQ,aFQ pU,aFQ pU,aFQ pU,aFQ pU,aFQ pU,aFQ pU,<-f2,e2,QS];rw[e2] at f3;obtain⟨g1,g2⟩:=QT.1 f3;rw[(a1G (v:=v) (z:=v) (by rw[UM (QU l' g1)];exact g2) (Hs l' g1)).2];unfold JU;simp
  unfold BQ;rw[M];dsimp only;have K:sE (AQ s++(tD l).flatten):=by unfold sE;rw[aFR];omega
  rw[aFP (fun _=>E),aFP (fun _=>by rw[aFR];omega),aFP (fun _=>by rw[OA _ K];rfl),decide_eq_false E,Bool.false_or];have Q:((decide (((AQ s++(tD l).flatten).length:Int)<=(4000:Int)))&&(validD (AQ s++(tD l).flatten)))=sX (AQ s++(tD l).flatten):=rfl;rw[Q];cases X:sX (AQ s++(tD l).flatten) with
  |false=>exact vT rfl rfl pU
  | true=>
    rw[aFQ pV,aFP rfl];refine HI rfl rfl ?_;obtain⟨k1,k2,k3,k4,k5,k6,k7,k8,k9,k10,k11,k12⟩:=a1C s (AQ s++(tD l).flatten);generalize hz:AQ s++(tD l).flatten=z at*;have F:=hr.ap;refine {c:=hr.c.trans k1.symm,ends:=hr.ends.trans k2.symm,pl:= ?_,x:=fun _=>?_,id:=fun _ R=>?_,fl:=fun _=>?_,ap:=hr.ap.trans (by rw[k11]),seen:=fun _=>?_,ids:=fun t=>?_,live:= ?_}
    .rw[k6,k2];exact hr.pl
    . show MD (true&&decide (P.ap=1)) z P.sc=_/\MD (true&&decide (P.ap=2)) z P.tg=_/\P.fg=_/\P.sv=_/\some (GF (true&&decide (P.ap=3)) z s.cm)=some _
      rw[k4,k5,F,x1,x2];unfold x6;rcases h.lst with e|e|e|e|e
      .exact absurd e j
      . rw[aFP e,e,UN]
        refine⟨rfl,rfl,x3,x4,?_⟩;have:=aBc (z:=z) (h.lcm e);unfold GF;rw[aFP qI,this]
      . rw[aFQ (by rw[e];decide),aFP e,e,UO]
        exact⟨rfl,rfl,x3,x4,rfl⟩
      . rw[aFQ (by rw[e];decide),aFQ (by rw[e];decide),aFP e,e,UP]
        exact⟨rfl,rfl,x3,x4,rfl⟩
      rw[aFQ (by rw[e];decide),aFQ (by rw[e];decide),aFQ (by rw[e];decide),e,UQ]
      exact⟨rfl,rfl,x3,x4,rfl⟩
    .rw[k3];rw[k2] at R;exact hr.id D R
    . show∃l,some (GG (true&&decide (4<=P.ap)) z fl)=some l/\_
      rw[k11,k12,F];refine⟨_,rfl,?_⟩;unfold x6;rcases h.lst with e|e|e|e|e
      .exact absurd e j
      . rw[aFP e,e,UN]
        exact⟨f2,f3,fun h0=>absurd h0 vS.2.2.2.2.2.2.2.1⟩
      . rw[aFQ (by rw[e];decide),aFP e,e,UO]
        exact⟨f2,f3,fun h0=>absurd h0 vS.2.2.2.2.2.2.2.2.1⟩
      . rw[aFQ (by rw[e];decide),aFQ (by rw[e];decide),aFP e,e,UP]
        exact⟨f2,f3,fun h0=>absurd h0 vS.2.2.2.2.2.2.2.2.2⟩
      obtain⟨l',v,e2⟩:=f4 e
      rw[aFQ (by rw[e];decide),aFQ (by rw[e];decide),aFQ (by rw[e];decide),e,UQ]
      have I:GG (true&&decide (4<=4)) z fl=l'++[(s.name,z,())]:=by
        unfold GG;rw[aFP qI,e2];have V:(l'++[(s.name,v,())]).getD ((l'++[(s.name,v,())]).length-1) ([],[],())=(s.name,v,()):=by simp
        rw[V];simp
      rw[I];rw[e2] at f3;obtain⟨g1,g2⟩:=QT.1 f3;refine⟨?_,QT.2 ⟨g1,g2⟩,fun _=>⟨l',z,rfl⟩⟩;rw[QS,<-f2,e2,QS];exact(a1G (by rw[UM (QU l' g1)];exact g2) (Hs l' g1)).1.symm
    .rw[k7,k8,k9,k10];exact hr.seen D
    .rw[k1,k2,k3,k6];exact hr.ids t
    rw[k2,k6];exact hr.live
end
noncomputable section
theorem a1K (v:pP):FI wR v=some (A8 v):=by
  rw[a9R wR v (by unfold sE;decide)];unfold A8;simp only[eq_comm]
theorem aBe (v:pP):J1 wR v=some (decide (0<=A8 v)):=by
  unfold J1;rw[a1K];rfl
theorem yH {α:Type}{w:α}{r:List α}:0<=(0:Int)/\(0:Int)<((w::r).length:Int):=⟨aGO _,by simp only[aFV];omega⟩
section
variable (c:sN) (pl:Int) (id sc tg:pP) (fg:pQ) (sv:Int) (en:pZ×Unit) (r:List Wd) (cm:pQ) (fl:List r9) (seen ids:Mp)
theorem aBf (h:cm.length<=20):DP c pl id sc tg fg sv en r cm fl seen ids=some (match tZ r with|none=>(3,0,cm) |some t=>if cm.length=20 then(6,0,cm) else(0,3,cm++[t])):=by
  unfold DP;rw[Hu,aFT];cases ho:tZ r with
  |none=>rfl
  | some t=>
    rw[QR ho,aFQ pV];dsimp only;by_cases j:cm.length=20
    .rw[aFP pW,aFP j]
    have z:qV rO [(true,t,())] (0:Int)=(true,t,()):=rfl
    rw[aFQ pW,aFQ j,aFP yH,aFP (by simp only[aFV,aF8];omega),z,aFP (by rw[aFR];simp only[aFV,aF8];unfold qR;omega),aFP (by rw[aFR];simp only[aFV,aF8];omega)]
theorem aBg (h:fl.length<=20):sE fl:=by unfold sE;omega
theorem aBh (h:fl.length<=20):DS c pl id sc tg fg sv en r cm fl seen ids=some (match G1 r with|none=>(3,0,fl) |some q=>if (fl.any fun y=>decide (y.1=q.1))=true then(9,0,fl) else if fl.length=20 then(6,0,fl) else(0,4,fl++[(q.1,q.2,())])):=by
  unfold DS;rw[aBb,aFT]
  match r with
  |[]=>rfl
  |[a]=>rfl
  | [a,b]=>
    have G:qV rO [a,b] (0:Int)=a:=rfl;have F:qV rO [a,b] (1:Int)=b:=rfl;have E:0<=(1:Int)/\(1:Int)<(List.length [a,b]:Int):=by simp
    rw[G,F,aa];dsimp only;rw[aFP (fun _=>yH),aFP (fun _=>Option.isSome_some)];show (if ((!(a.1&&b.1))||(!v7 a.2.1))=true then _ else _)=_
    have hf:G1 [a,b]=if (a.1=true/\b.1=true)/\v7 a.2.1=true then some (a.2.1,b.2.1) else none:=rfl;by_cases j:(a.1=true/\b.1=true)/\v7 a.2.1=true
    . rw[hf,aFP j]
      obtain⟨⟨D,z⟩,h3⟩:=j;rw[aFQ (by rw[D,z,h3];simp),aFP yH,a9U _ _ (aBg fl h),aFT,a9S];dsimp only;by_cases h4:(fl.any fun y=>decide (y.1=a.2.1))=true
      .rw[aFP h4,aFP h4]
      rw[aFQ h4,aFQ h4]
      by_cases I:fl.length=20
      .rw[aFP pW,aFP I]
      rw[aFQ pW,aFQ I,aFP yH,aFP E,aFP (by simp only[aFV,aF8];omega),aFP (by rw[aFR];simp only[aFV,aF8];unfold qR;omega),aFP (by rw[aFR];simp only[aFV,aF8];omega)]
    .rw[hf,aFQ j,aFP (by
        cases D:a.1<;>cases z:b.1<;>cases h3:v7 a.2.1<;>first|rfl|exact absurd ⟨⟨D,z⟩,h3⟩ j)]
  |a::b::d::t=>rfl
theorem a1L:FO c pl id sc tg fg sv en r cm fl seen ids=some (match tZ r with|none=>(3,sc,0,seen) |some t=>if sW .str .bool seen uK=true then(9,sc,0,tA .str .bool uK true seen) else(0,t,1,tA .str .bool uK true seen)):=by
  unfold FO IZ;rw[Hu,aFT];cases ho:tZ r with
  |none=>rfl
  | some t=>
    have j:qV rO [(true,t,())] (0:Int)=(true,t,()):=rfl;rw[QR ho,aFQ pV];dsimp only;show Option.bind (if sW .str .bool seen uK=true then _ else _) _=_;by_cases h:sW .str .bool seen uK=true
    .rw[aFP h,aFP h];rfl
    rw[aFQ h,aFQ h,aFP yH,j];rfl
theorem a1M:FP c pl id sc tg fg sv en r cm fl seen ids=some (match tZ r with|none=>(3,tg,0,seen) |some t=>if sW .str .bool seen uL=true then(9,tg,0,tA .str .bool uL true seen) else(0,t,2,tA .str .bool uL true seen)):=by
  unfold FP J0;rw[Hu,aFT];cases ho:tZ r with
  |none=>rfl
  | some t=>
    have j:qV rO [(true,t,())] (0:Int)=(true,t,()):=rfl;rw[QR ho,aFQ pV];dsimp only;show Option.bind (if sW .str .bool seen uL=true then _ else _) _=_;by_cases h:sW .str .bool seen uL=true
    .rw[aFP h,aFP h];rfl
    rw[aFQ h,aFQ h,aFP yH,j];rfl
theorem a1N:H4 c pl id sc tg fg sv en r cm fl seen ids=some (match G0 r with|none=>(3,sv,seen) |some v=>if sW .str .bool seen xR=true then(9,sv,tA .str .bool xR true seen) else(0,v,tA .str .bool xR true seen)):=by
  unfold H4
  match r with
  |[]=>rw[bo];rfl
  | [a]=>
    have hst:zG [a] [112]=some (!a.1):=by rw[bo];cases h:a.1<;>simp [h]
    rw[hst,aFT];have z:qV rO [a] (0:Int)=a:=rfl;rw[z,show J1 ([([110,101,119]:pP),([102,117,122,122,121]:pP),([116,114,97,110,115,108,97,116,101,100]:pP),([114,101,118,105,101,119,101,100]:pP),([111,98,115,111,108,101,116,101]:pP)]:pQ) a.2.1=some (decide (0<=A8 a.2.1)) from aBe a.2.1];rw[show FI ([([110,101,119]:pP),([102,117,122,122,121]:pP),([116,114,97,110,115,108,97,116,101,100]:pP),([114,101,118,105,101,119,101,100]:pP),([111,98,115,111,108,101,116,101]:pP)]:pQ) a.2.1=some (A8 a.2.1) from a1K a.2.1];have hf:G0 [a]=if a.1=false/\0<=A8 a.2.1 then some (A8 a.2.1) else none:=rfl;rw[hf];cases D:a.1 with
    |true=>rfl
    | false=>
      rw[aFP (show ((!(!false))==false)=true from rfl),aFP (fun _=>yH),aFP (fun _=>Option.isSome_some)];by_cases hs:0<=A8 a.2.1
      . rw[aFQ (show¬((!(!false))||(!(val (some (decide (0<=A8 a.2.1))))))=true by rw[aGx hs];decide),aFP (show false=false/\0<=A8 a.2.1 from⟨rfl,hs⟩)]
        show (if sW .str .bool seen xR=true then _ else _)=_;dsimp only;by_cases j:sW .str .bool seen xR=true
        .rw[aFP j,aFP j];rfl
        rw[aFQ j,aFQ j,aFP yH];rfl
      .rw[aFP (show ((!(!false))||(!(val (some (decide (0<=A8 a.2.1))))))=true by rw[decide_eq_false hs];decide),aFQ (show¬(false=false/\0<=A8 a.2.1) from fun h=>hs h.2)]
  |a::b::t=>rw[bo];rfl
theorem a1O {r:List Wd}(hl:r.length<=1100000000): ∀(n i:Nat),i+n=r.length->sA (NL r) ((i:Int),tD (r.take i))=some (tD r)
  | 0,i,hi=>by
    have:i=r.length:=by omega
    subst this;rw[take_length,vB];unfold NL;dsimp only;rw[aFQ (xD _)];rfl
  | n+1,i,hi=>by
    have h:i<r.length:=by omega
    have j:(tD (r.take i)).length=i:=by unfold tD;rw[aGV,aGy];omega
    have z:tD (r.take i)++[r[i].2.1]=tD (r.take (i+1)):=by
      unfold tD;rw[take_succ_eq_append_getElem h,map_append];rfl
    rw[vB];generalize D:sA (NL r)=F;unfold NL;dsimp only;rw[aFP (vI h),aFP (tQ h),UI h,j,aFP (by simp only[aFV,aF8];omega),aFP (w4 pT),aFT];dsimp only;rw[z,<-D,show ((i:Int)+1)=((i+1:Nat):Int) by omega];exact a1O hl n (i+1) pT
theorem aBi {r:List Wd}(hl:r.length<=1100000000):KT r=some (r.any G2):=by
  unfold KT Q0
  rw[LE (l:=r) G2 (fun k=>(k:Int)) (fun i h=>by
    unfold Z7 T8;rw[aFP (vI h),aFP (tQ h),UI h,aa,aFP (fun _=>Option.isSome_some),aFT,aFP (w4 pT)];rfl) (by
    unfold Z7;rw[aFQ (xD _)]),U6,aFT,a00]
theorem aBj (hl:r.length<=1100000000):GZ c pl id sc tg fg sv en r cm fl seen ids=some (if r=[]\/(r.any G2)=true then(3,fg,seen) else if sW .str .bool seen wZ=true\/CA (tD r)=true then(9,fg,tA .str .bool wZ true seen) else if 20<(tD r).length then(6,fg,tA .str .bool wZ true seen) else(0,tX (tD r),tA .str .bool wZ true seen)):=by
  have D:=a1O hl r.length 0 pT;have G:(tD r).length=r.length:=by unfold tD;rw[aGV]
  unfold GZ;rw[aBi hl,aFP (fun _=>Option.isSome_some),aAW];show (if (decide (r=[])||r.any G2)=true then _ else _)=_
  by_cases h:r=[]\/(r.any G2)=true
  .rw[aFP h,aFP (by rcases h with h|h<;>simp [h])]
  rw[aFQ h,aFQ (by rw[not_or] at h;simpa using h)]
  have j:sA (NL r) ((0:Int),([]:pQ))=some (tD r):=D;rw[j];unfold uS;rw[aFT,aFP pT]
  have E:FK (tX (tD r))=some (tX (tD r)):=by
    unfold FK;rw[aFP (by rw[UF];omega),nil_append]
  show (if ((sW .str .bool seen wZ)==false)=true then _ else _)=_;cases hf:sW .str .bool seen wZ with
  | true=>
    rw[aFQ pV,aFP rfl,aFP (.inl rfl)];rfl
  | false=>
    rw[aFP qI,E,aFP (fun _=>Option.isSome_some)];rw[aFP (show (sW .str .bool seen ([102,108,97,103,115]:pP)==false)=true->List.length (val (some (tX (tD r))))<=9223372036854775807 from fun _=>by show (tX (tD r)).length<=_;rw[UF];omega)];show (if (sW .str .bool seen wZ||(decide (((((compact (tX (tD r))).length):Nat):Int)<((tX (tD r)).length:Int))))=true then _ else _)=_
    have F:decide (((((compact (tX (tD r))).length):Nat):Int)<((tX (tD r)).length:Int))=CA (tD r):=by
      unfold CA;exact aHq.2 pT
    rw[F,hf,Bool.false_or];by_cases z:CA (tD r)=true
    .rw[aFP z,aFP (.inr z)];rfl
    rw[aFQ z,aFQ (show¬(false=true\/CA (tD r)=true) by simp [z])]
    by_cases h3:20<(tD r).length
    .rw[aFP h3,aFP (by rw[UF];simp only[aFY];omega)];rfl
    rw[aFQ h3,aFQ (by rw[UF];simp only[aFY];omega)];rfl
end
theorem aBk (k:pP):GY k=if k=w5 then(some 117,true) else if k=wT then(some 118,true) else(if k=wZ then some 122 else if k=xR then some 121 else if k=uL then some 120 else if k=uK then some 119 else none,false):=by
  unfold GY;by_cases j:k=w5
  .rw[aFP j,show decide (k=([99,111,109,109,101,110,116]:pP))=true from aGx j,aFP rfl]
  rw[aFQ j,show decide (k=([99,111,109,109,101,110,116]:pP))=false from decide_eq_false j,aFQ pV]
  by_cases h:k=wT
  .rw[aFP h,show decide (k=([102,105,101,108,100]:pP))=true from aGx h,aFP rfl]
  rw[aFQ h,show decide (k=([102,105,101,108,100]:pP))=false from decide_eq_false h,aFQ pV,xQ,xQ,xQ,xQ]
  rfl
end
noncomputable section
def OG (P:Pg) (l:List Wd) (nx:Int):Option LJ:=
    if ((decide (P.pl=(0:Int)))||(decide (P.pl=(2:Int))))=true then
     (xC P.c P.pl P.id P.sc P.tg P.fg P.sv (P.ends,()) l P.cm P.n1 P.fl P.n2 P.seen P.ids).bind fun v82=>
     some ((v82.1,v82.2.1,P.c.2.1,P.c.2.2.1,P.c.2.2.2.1,v82.2.2.1,v82.2.2.2.1,v82.2.2.2.2.1,v82.2.2.2.2.2.1,v82.2.2.2.2.2.2.1,v82.2.2.2.2.2.2.2.1,0,P.ends,v82.2.2.2.2.2.2.2.2.1,v82.2.2.2.2.2.2.2.2.2.1,v82.2.2.2.2.2.2.2.2.2.2.1,v82.2.2.2.2.2.2.2.2.2.2.2.1,v82.2.2.2.2.2.2.2.2.2.2.2.2.1,v82.2.2.2.2.2.2.2.2.2.2.2.2.2))
    else
     if 0<=(0:Int)/\(0:Int)<(l.length:Int) then
      if (decide ((qV rO l (0:Int)).2.1=([101,110,100]:pP)))=true then
       P.cm.bind fun O=>
       P.fl.bind fun Z=>
       if 0<=(1:Int)/\(1:Int)<=(l.length:Int)/\(l.length:Int)<=(l.length:Int) then
        (zO P.c P.pl P.id P.sc P.tg P.fg P.sv (P.ends,()) (sG l (1:Int) (l.length:Int)) nx O Z P.seen P.ids).bind fun v88=>
        some ((v88.1,P.c.1,v88.2.1,v88.2.2.1,v88.2.2.2.1,v88.2.2.2.2.1,P.id,P.sc,P.tg,P.fg,P.sv,0,v88.2.2.2.2.2.1,P.ids,v88.2.2.2.2.2.2.1,(O.length),v88.2.2.2.2.2.2.2.1,v88.2.2.2.2.2.2.2.2,P.seen))
       else none
      else
       if 0<=(0:Int)/\(0:Int)<(l.length:Int) then
        BQ (GY ((qV rO l (0:Int)).2.1)) fun v89=>
        if ((zS v89.1)||((decide (P.pl=(1:Int)))&&(!v89.2)))=true then
         some (((3:Int),P.c.1,P.c.2.1,P.c.2.2.1,P.c.2.2.2.1,P.pl,P.id,P.sc,P.tg,P.fg,P.sv,0,P.ends,P.ids,P.cm,P.n1,P.fl,P.n2,P.seen))
        else
         BQ v89.1 fun aA=>
         if aA=some 117 then
          P.cm.bind fun aB=>
          P.fl.bind fun aC=>
          if 0<=(1:Int)/\(1:Int)<=(l.length:Int)/\(l.length:Int)<=(l.length:Int) then
           (DP P.c P.pl P.id P.sc P.tg P.fg P.sv (P.ends,()) (sG l (1:Int) (l.length:Int)) aB aC P.seen P.ids).bind fun v93=>
           some ((v93.1,P.c.1,P.c.2.1,P.c.2.2.1,P.c.2.2.2.1,P.pl,P.id,P.sc,P.tg,P.fg,P.sv,v93.2.1,P.ends,P.ids,(some v93.2.2),(v93.2.2.length),(some aC),(aC.length),P.seen))
          else none
         else
         if aA=some 118 then
          P.cm.bind fun aD=>
          P.fl.bind fun aE=>
          if 0<=(1:Int)/\(1:Int)<=(l.length:Int)/\(l.length:Int)<=(l.length:Int) then
           (DS P.c P.pl P.id P.sc P.tg P.fg P.sv (P.ends,()) (sG l (1:Int) (l.length:Int)) aD aE P.seen P.ids).bind fun v96=>
           some ((v96.1,P.c.1,P.c.2.1,P.c.2.2.1,P.c.2.2.2.1,P.pl,P.id,P.sc,P.tg,P.fg,P.sv,v96.2.1,P.ends,P.ids,(some aD),(aD.length),(some v96.2.2),(v96.2.2.length),P.seen))
          else none
         else
         if aA=some 119 then
          P.cm.bind fun aF=>
          P.fl.bind fun aG=>
          if 0<=(1:Int)/\(1:Int)<=(l.length:Int)/\(l.length:Int)<=(l.length:Int) then
           (FO P.c P.pl P.id P.sc P.tg P.fg P.sv (P.ends,()) (sG l (1:Int) (l.length:Int)) aF aG P.seen P.ids).bind fun v99=>
           some ((v99.1,P.c.1,P.c.2.1,P.c.2.2.1,P.c.2.2.2.1,P.pl,P.id,v99.2.1,P.tg,P.fg,P.sv,v99.2.2.1,P.ends,P.ids,(some aF),(aF.length),(some aG),(aG.length),v99.2.2.2))
          else none
         else
         if aA=some 120 then
          P.cm.bind fun aH=>
          P.fl.bind fun aI=>
          if 0<=(1:Int)/\(1:Int)<=(l.length:Int)/\(l.length:Int)<=(l.length:Int) then
           (FP P.c P.pl P.id P.sc P.tg P.fg P.sv (P.ends,()) (sG l (1:Int) (l.length:Int)) aH aI P.seen P.ids).bind fun v102=>
           some ((v102.1,P.c.1,P.c.2.1,P.c.2.2.1,P.c.2.2.2.1,P.pl,P.id,P.sc,v102.2.1,P.fg,P.sv,v102.2.2.1,P.ends,P.ids,(some aH),(aH.length),(some aI),(aI.length),v102.2.2.2))
          else none
         else
         if aA=some 121 then
          P.cm.bind fun aJ=>
          P.fl.bind fun aK=>
          if 0<=(1:Int)/\(1:Int)<=(l.length:Int)/\(l.length:Int)<=(l.length:Int) then
           (H4 P.c P.pl P.id P.sc P.tg P.fg P.sv (P.ends,()) (sG l (1:Int) (l.length:Int)) aJ aK P.seen P.ids).bind fun v105=>
           some ((v105.1,P.c.1,P.c.2.1,P.c.2.2.1,P.c.2.2.2.1,P.pl,P.id,P.sc,P.tg,P.fg,v105.2.1,0,P.ends,P.ids,(some aJ),(aJ.length),(some aK),(aK.length),v105.2.2))
          else none
         else
         if aA=some 122 then
          P.cm.bind fun aL=>
          P.fl.bind fun aM=>
          if 0<=(1:Int)/\(1:Int)<=(l.length:Int)/\(l.length:Int)<=(l.length:Int) then
           (GZ P.c P.pl P.id P.sc P.tg P.fg P.sv (P.ends,()) (sG l (1:Int) (l.length:Int)) aL aM P.seen P.ids).bind fun v108=>
           some ((v108.1,P.c.1,P.c.2.1,P.c.2.2.1,P.c.2.2.2.1,P.pl,P.id,P.sc,P.tg,v108.2.1,P.sv,0,P.ends,P.ids,(some aL),(aL.length),(some aM),(aM.length),v108.2.2))
          else none
         else
          none
       else none
     else none
theorem a1P {s:St}(ho:s.op=false) (h:s.ends≠[]) (n:Int) {c:wC}(z: ∀t,c≠.beg false t):(rQ s n c).1=3:=by
  cases c with
  |bad=>rfl
  |cont t=>rw[rQ,aFP (.inl ho)]
  | beg j t=>
    cases j with
    |true=>rw[rQ,aFP (.inr h)]
    |false=>exact absurd rfl (z t)
  |com t=>rw[rQ,aFP ho]
  |src t=>rw[rQ,aFP (.inl ho)]
  |tgt t=>rw[rQ,aFP (.inl ho)]
  |sta v=>rw[rQ,aFP (.inl ho)]
  |fld m v=>rw[rQ,aFP ho]
  |flg l=>rw[rQ,aFP (.inl ho)]
  |fin=>rw[rQ,aFP ho]
theorem a1Q {k:pP}{r:List Wd}{t:pP}(h:vP k r= .beg false t):k=HH/\tZ r=some t:=by
  unfold vP at h
  have one: ∀(f:pP->wC),(∀x,f x≠.beg false t)->((tZ r).map f).getD .bad≠.beg false t:=fun f hf=>by
    cases tZ r with
    |none=>intro h;cases h
    |some x=>exact hf x
  split at h
  .exact absurd h (one _ fun x j=>by cases j)
  split at h
  . rename_i z
    refine⟨z,?_⟩;cases ho:tZ r with
    |none=>rw[ho] at h;cases h
    |some x=>rw[ho] at h;cases h;rfl
  split at h
  .exact absurd h (one _ fun x j=>by cases j)
  split at h
  .exact absurd h (one _ fun x j=>by cases j)
  split at h
  .exact absurd h (one _ fun x j=>by cases j)
  split at h
  . cases hs:G0 r with
    |none=>rw[hs] at h;cases h
    |some v=>rw[hs] at h;cases h
  split at h
  . cases hs:G1 r with
    |none=>rw[hs] at h;cases h
    |some v=>rw[hs] at h;cases h
  split at h
  .split at h<;>cases h
  split at h
  .split at h<;>cases h
  cases h
theorem a1R (w:Wd) (r:List Wd) (hw:w.1=false):(((!decide (((w::r).length:Int)=(2:Int)))||(qV rO (w::r) (0:Int)).1)||(!((qV rO (w::r) (1:Int)).1)))= !(tZ r).isSome:=by
  have h:=aAN w r;have h0:(qV rO (w::r) (0:Int)).1=false:=hw;rw[h0,<-h];cases decide (((w::r).length:Int)=(2:Int))<;>cases(qV tW (w::r) (1:Int)).1<;>rfl
theorem aBl {s:St}(h:xF s) {P:Pg}(hr:ER s P) (ho:s.op=false) {w:Wd}{r:List Wd}(hw:w.1=false) {N:Nat}(U: ∀x∈r,BD N x) (nx:Int):CW (OG P (w::r) nx) (rQ s nx (vP w.2.1 r)):=by
  have D:s.ends≠[]:=by
    rcases hr.live with M|M
    .rw[ho] at M;cases M
    exact M
  have E:P.pl=2:=by rw[hr.pl,ho,aFQ pV,aFQ D]
  have hj:=h.es.len;unfold OG;rw[aFP (by rw[E];rfl)];unfold xC;rw[a1R w r hw,E];have ha: ¬((2:Int)=0):=by decide
  have Z:(((!decide (((w::r).length:Int)=(2:Int)))==false)=true->0<=(0:Int)/\(0:Int)<((w::r).length:Int)):=fun _=>yH
  have Y:((((!decide (((w::r).length:Int)=(2:Int)))||(qV rO (w::r) (0:Int)).1)==false)=true->0<=(1:Int)/\(1:Int)<((w::r).length:Int)):=fun K=>by
    cases hd:decide (((w::r).length:Int)=(2:Int)) with
    |false=>rw[hd] at K;cases K
    |true=>have:=aGt hd;omega
  rw[aFP Z,aFP Y];cases j:tZ r with
  | none=>
    rw[aFP qI,aFT]
    have h3:(rQ s nx (vP w.2.1 r)).1=3:=a1P ho D nx fun t Q=>by
      have:=(a1Q Q).2;rw[j] at this;cases this
    refine⟨_,rfl,h3.symm,fun h0=>?_⟩;rw[h3] at h0;cases h0
  | some t=>
    have hg:=a1y U j;have R:=QR j;subst R;have X:qV rO [w,(true,t,())] (0:Int)=w:=rfl;have V:qV rO [w,(true,t,())] (1:Int)=(true,t,()):=rfl;rw[aFQ pV,aFP pV,X,V];rw[aFP (fun _=>yH),aFP (fun K=>by simp at K),aFQ pV,aFP (fun _=>yH)];dsimp only;by_cases I:w.2.1=HH
    . have G:vP w.2.1 [(true,t,())]= .beg false t:=by rw[I];exact(a1D (k:=[]) j).2.1
      rw[G,rQ,aFQ (show¬(s.op=true\/s.ends=[]) by simp [ho,D])];by_cases z:t=[]\/200<t.length
      . rw[aFP z,aFQ (by
          rcases z with z|z
          .subst z;simp
          rw[decide_eq_false (show¬(t.length:Int)<=200 by omega)];simp),aFT]
        exact vT rfl rfl pU
      rw[aFQ z]
      have F:sW .str .bool P.ids t=(s.c.2.2.2.1.any fun y=>decide (y.1=t)):=by rw[hr.ids t,ho];simp
      rw[not_or] at z;rw[aFP (by rw[show decide (w.2.1=([101,110,116,114,121]:pP))=true from aGx I,decide_eq_false z.1,aGx (show (t.length:Int)<=200 by omega)];rfl),F];by_cases h3:(s.c.2.2.2.1.any fun y=>decide (y.1=t))=true
      . rw[aFP h3,aFP h3,aFT]
        exact vT rfl rfl pU
      rw[aFQ h3,aFQ h3,hr.c]
      by_cases h4:1000<=s.c.2.2.2.1.length
      . rw[aFP h4,aFP pW,aFT]
        exact vT rfl rfl pU
      rw[aFQ h4,aFQ pW,aFT]
      refine HI rfl rfl {c:=rfl,ends:=hr.ends,pl:= ?_,x:=fun _=>⟨rfl,rfl,rfl,rfl,rfl⟩,id:=fun _ _=>rfl,fl:=fun _=>⟨[],rfl,rfl,nodup_nil,fun h0=>absurd h0.symm vS.2.2.2.1⟩,ap:=OF.symm,seen:=fun _=>⟨rfl,rfl,rfl,rfl⟩,ids:=fun x=>?_,live:= .inl rfl}
      . show (3:Int)=if true=true then(if s.ends=[] then 1 else 3) else _
        rw[aFP rfl,aFQ D]
      show sW .str .bool (tA .str .bool t true P.ids) x=((s.c.2.2.2.1.any fun y=>decide (y.1=x))||((true&&decide (s.ends≠[]))&&decide (t=x)))
      rw[xQ,hr.ids x,ho,aGx D];by_cases O:x=t
      .subst O;simp
      rw[aFQ O,show decide (t=x)=false from decide_eq_false (fun e=>O e.symm)];simp
    rw[aFQ (by rw[show decide (w.2.1=([101,110,116,114,121]:pP))=false from decide_eq_false I];simp),aFT]
    have h3:(rQ s nx (vP w.2.1 [(true,t,())])).1=3:=a1P ho D nx fun t Q=>I (a1Q Q).1;refine⟨_,rfl,h3.symm,fun h0=>?_⟩;rw[h3] at h0;cases h0
theorem aBm {s:St}(ho:s.op=true) (n:Int) {k:pP}{r:List Wd}(E:k≠w5) (D:k≠uK) (h3:k≠uL) (h4:k≠xR) (z:k≠wT) (j:k≠OE) (h:k≠wZ):(rQ s n (vP k r)).1=3:=by
  unfold vP;split
  . cases tZ r with
    |none=>rfl
    |some t=>show (rQ s n (.beg true t)).1=3;rw[rQ,aFP (.inl ho)]
  split
  . cases tZ r with
    |none=>rfl
    |some t=>show (rQ s n (.beg false t)).1=3;rw[rQ,aFP (.inl ho)]
  first|rfl|(rw[aFQ E,aFQ D,aFQ h3,aFQ h4,aFQ z,aFQ j,aFQ h];rfl)
theorem a1S (r:List Wd):vP w5 r=((tZ r).map wC.com).getD .bad/\vP uK r=((tZ r).map wC.src).getD .bad/\vP uL r=((tZ r).map wC.tgt).getD .bad/\vP xR r=((G0 r).map wC.sta).getD .bad/\
    vP wT r=((G1 r).map fun q=>wC.fld q.1 q.2).getD .bad/\vP OE r=(if r=[] then .fin else .bad)/\vP wZ r=(if r=[]\/(r.any G2)=true then .bad else .flg (tD r)):=by
  refine⟨?_,?_,?_,?_,?_,?_,?_⟩<;>unfold vP
  .rw[aFQ pU,aFQ pU,aFP rfl]
  .rw[aFQ pU,aFQ pU,aFQ pU,aFP rfl]
  .rw[aFQ pU,aFQ pU,aFQ pU,aFQ pU,aFP rfl]
  .rw[aFQ pU,aFQ pU,aFQ pU,aFQ pU,aFQ pU,aFP rfl]
  .rw[aFQ pU,aFQ pU,aFQ pU,aFQ pU,aFQ pU,aFQ pU,aFP rfl]
  .rw[aFQ pU,aFQ pU,aFQ pU,aFQ pU,aFQ pU,aFQ pU,aFQ pU,aFP rfl]
  rw[aFQ pU,aFQ pU,aFQ pU,aFQ pU,aFQ pU,aFQ pU,aFQ pU,aFQ pU,aFP rfl]
theorem HJ (w:Wd) (r:List Wd):sG (w::r) (1:Int) ((w::r).length:Int)=r:=(O8 (k:=1)).trans rfl
theorem HK {w:Wd}{r:List Wd}:0<=(1:Int)/\(1:Int)<=((w::r).length:Int)/\((w::r).length:Int)<=((w::r).length:Int):=⟨pU,by simp only[aFV];omega,aGO _⟩
section
variable {s:St}(h:xF s) {P:Pg}(hr:ER s P) (ho:s.op=true) {w:Wd}{r:List Wd}(hw:w.1=false) (hl:r.length<=1100000000) (nx:Int)
include h hr ho
theorem Hx:P.pl=if s.ends=[] then 1 else 3:=by rw[hr.pl,aFP ho]
theorem a1T:decide (P.pl=(1:Int))=decide (s.ends=[]):=by
  rw[Hx h hr ho];by_cases j:s.ends=[]<;>simp [j]
theorem aBn (z:w.2.1=OE):CW (OG P (w::r) nx) (rQ s nx (vP w.2.1 r)):=by
  obtain⟨x1,x2,x3,x4,x5⟩:=hr.x ho;obtain⟨fl,f1,f2,f3,f4⟩:=hr.fl ho;have F:=h.es.len;have G:=a1A h
  have E:fl.length<=20:=by
    have:=(QU fl f3).length_eq;rw[f2] at this;have:=a1z h.fd;omega
  unfold OG;rw[aFQ (by rw[Hx h hr ho];split<;>decide),aFP yH,show qV rO (w::r) (0:Int)=w from rfl,aFP (by rw[z];rfl),x5,f1,aFT,aFT,aFP HK,HJ,z,(a1S r).2.2.2.2.2.1]
  unfold zO;cases D:r with
  | cons a t=>
    rw[aFP (by simp only[aFY,aFV];omega),aFQ pV];exact vT rfl rfl pU
  | nil=>
    rw[aFQ pV,aFP rfl,aBa f3 pT,aFT,a1T h hr ho,f2,rQ,aFQ (show¬s.op=false by rw[ho];simp)];rw[hr.ends,hr.c,x1,x2,x3,x4];by_cases j:s.ends=[]
    . rw[aFP (aGx j),aFP j]
      unfold uS;rw[aFT];dsimp only;rw[aFP (by simp only[aFV,aF8];omega),aFT];refine HI rfl rfl {c:=rfl,ends:=rfl,pl:= ?_,x:=fun h0=>(by cases h0),id:=fun h0=>(by cases h0),fl:=fun h0=>(by cases h0),ap:=OF.symm,seen:=fun h0=>(by cases h0),ids:=fun x=>?_,live:= .inr (by simp [tS])}
      . show (2:Int)=if false=true then _ else(if s.ends++[nx]=[] then 0 else 2)
        rw[aFQ pV,aFQ pV]
      show sW .str .bool P.ids x=((s.c.2.2.2.1.any fun y=>decide (y.1=x))||((false&&decide (s.ends++[nx]≠[]))&&decide (([]:pP)=x)))
      rw[hr.ids x,decide_eq_false (show¬s.ends≠[] by simpa using j)];simp
    rw[aFQ (by simpa using j),aFQ j,hr.id ho j,aFP (by simp only[aFV,aF8];omega)]
    unfold uS;rw[aFT];dsimp only;rw[aFP (by simp only[aFV,aF8];omega),aFT];refine HI rfl rfl {c:=rfl,ends:=rfl,pl:= ?_,x:=fun h0=>(by cases h0),id:=fun h0=>(by cases h0),fl:=fun h0=>(by cases h0),ap:=OF.symm,seen:=fun h0=>(by cases h0),ids:=fun x=>?_,live:= .inr (by simp [tS])}
    . show (2:Int)=if false=true then _ else(if s.ends++[nx]=[] then 0 else 2)
      rw[aFQ pV,aFQ pV]
    show sW .str .bool P.ids x=(((s.c.2.2.2.1++[s.x]).any fun y=>decide (y.1=x))||((false&&decide (s.ends++[nx]≠[]))&&decide (([]:pP)=x)))
    rw[hr.ids x,any_append,ho,aGx j];simp
end
end
noncomputable section
section
variable {s:St}(h:xF s) {P:Pg}(hr:ER s P) (ho:s.op=true) {w:Wd}{r:List Wd}(hw:w.1=false) (hl:r.length<=1100000000) (nx:Int)
include h hr ho
theorem QV {s':St}{P':Pg}(k1:s'.c=s.c) (k2:s'.ends=s.ends) (k3:s'.id=s.id) (k4:s'.op=s.op) (p1:P'.c=P.c) (p2:P'.ends=P.ends) (p3:P'.id=P.id) (p4:P'.pl=P.pl) (p5:P'.ids=P.ids)
    (h:P'.sc=s'.sc/\P'.tg=s'.tg/\P'.fg=s'.fg/\P'.sv=s'.sv/\P'.cm=some s'.cm) (hf: ∃l,P'.fl=some l/\G4 l=s'.fd/\(l.map (·.1)).Nodup/\(s'.last=wT->∃l' v,l=l'++[(s'.name,v,())]))
    (z:P'.ap=LI s'.last) (hs:sW .str .bool P'.seen uK=s'.bs/\sW .str .bool P'.seen uL=s'.bt/\sW .str .bool P'.seen xR=s'.bh/\sW .str .bool P'.seen wZ=s'.bf):ER s' P':=
  {c:=by rw[p1,k1];exact hr.c,ends:=by rw[p2,k2];exact hr.ends,pl:=by rw[p4,k4,k2];exact hr.pl,x:=fun _=>h,id:=fun _ j=>by rw[p3,k3];exact hr.id ho (by rw[<-k2];exact j),fl:=fun _=>hf,ap:=z,seen:=fun _=>hs,ids:=fun t=>by rw[p5,k1,k2,k3,k4];exact hr.ids t,live:= .inl (k4.trans ho)}
include hl in
theorem aBo:CW (OG P (w::r) nx) (rQ s nx (vP w.2.1 r)):=by
  by_cases K:w.2.1=OE
  .exact aBn h hr ho nx K
  obtain⟨x1,x2,x3,x4,x5⟩:=hr.x ho;obtain⟨fl,f1,f2,f3,f4⟩:=hr.fl ho;obtain⟨s1,s2,s3,s4⟩:=hr.seen ho;have hcm:=aAT h.cm;have D:=QU fl f3;rw[f2] at D
  have R:fl.length<=20:=by
    have:=D.length_eq;have:=a1z h.fd;omega
  obtain⟨c1,c2,c3,c4,c5,c6,c7⟩:=a1S r;unfold OG;rw[aFQ (by rw[Hx h hr ho];split<;>decide),aFP yH,show qV rO (w::r) (0:Int)=w from rfl,show decide (w.2.1=([101,110,100]:pP))=false from decide_eq_false K,aFQ pV,aFP yH,aBk]
  unfold BQ;by_cases Q:w.2.1=w5
  . rw[aFP Q]
    dsimp only;rw[aFQ (by simp [zS]),aFP rfl,x5,f1,aFT,aFT,aFP HK,HJ,aBf _ _ _ _ _ _ _ _ _ _ _ _ _ hcm,aFT,Q,c1];cases U:tZ r with
    |none=>exact vT rfl rfl pU
    | some t=>
      show CW _ (rQ s nx (.com t));rw[rQ,aFQ (show¬s.op=false by rw[ho];simp)];dsimp only;by_cases F:s.cm.length=20
      . rw[aFP F,aFP (show 20<=s.cm.length by omega)]
        exact vT rfl rfl pU
      rw[aFQ F,aFQ (show¬20<=s.cm.length by omega)]
      exact HI rfl rfl (QV h hr ho rfl rfl rfl rfl rfl rfl rfl rfl rfl ⟨x1,x2,x3,x4,rfl⟩ ⟨fl,rfl,f2,f3,fun h0=>absurd h0 vS.2.2.2.2.2.2.2.1⟩ UN.symm ⟨s1,s2,s3,s4⟩)
  rw[aFQ Q];by_cases O:w.2.1=wT
  . rw[aFP O]
    dsimp only;rw[aFQ (by simp [zS]),aFQ pV,aFP rfl,x5,f1,aFT,aFT,aFP HK,HJ,aBh _ _ _ _ _ _ _ _ _ _ _ _ _ R,aFT,O,c5];cases hq:G1 r with
    |none=>exact vT rfl rfl pU
    | some q=>
      show CW _ (rQ s nx (.fld q.1 q.2));rw[rQ,aFQ (show¬s.op=false by rw[ho];simp),<-UM D.symm q.1];dsimp only;by_cases h3:(fl.any fun y=>decide (y.1=q.1))=true
      . rw[aFP h3,aFP h3]
        exact vT rfl rfl pU
      rw[aFQ h3,aFQ h3]
      have hle:=D.length_eq;by_cases F:fl.length=20
      . rw[aFP F,aFP (show 20<=s.fd.length by omega)]
        exact vT rfl rfl pU
      rw[aFQ F,aFQ (show¬20<=s.fd.length by omega)]
      refine HI rfl rfl (QV h hr ho rfl rfl rfl rfl rfl rfl rfl rfl rfl ⟨x1,x2,x3,x4,rfl⟩ ⟨fl++[(q.1,q.2,())],rfl,?_,QT.2 ⟨f3,by cases hb:(fl.any fun y=>decide (y.1=q.1)) with|false=>rfl|true=>exact absurd hb h3⟩,fun _=>⟨fl,q.2,rfl⟩⟩ UQ.symm ⟨s1,s2,s3,s4⟩)
      rw[QS,f2]
  rw[aFQ O];have E: ∀(o:qB),((zS o)||((decide (P.pl=(1:Int)))&&(!false)))=((zS o)||decide (s.ends=[])):=fun o=>by rw[a1T h hr ho];simp
  by_cases h3:w.2.1=wZ
  . rw[aFP h3]
    dsimp only;rw[E,h3,c7];by_cases j:s.ends=[]
    . rw[aFP (by simp [j])]
      split
      .exact vT rfl rfl pU
      rw[rQ,aFP (.inr j)]
      exact vT rfl rfl pU
    rw[aFQ (by simp [zS,j]),aFQ pV,aFQ pV,aFQ pV,aFQ pV,aFQ pV,aFP rfl,x5,f1,aFT,aFT,aFP HK,HJ,aBj _ _ _ _ _ _ _ _ _ _ _ _ _ hl,aFT]
    by_cases G:r=[]\/(r.any G2)=true
    . rw[aFP G,aFP G]
      exact vT rfl rfl pU
    rw[aFQ G,aFQ G,rQ,aFQ (show¬(s.op=false\/s.ends=[]) by simp [ho,j]),s4]
    by_cases z:s.bf=true\/CA (tD r)=true
    . rw[aFP z,aFP z]
      exact vT rfl rfl pU
    rw[aFQ z,aFQ z]
    by_cases M:20<(tD r).length
    . rw[aFP M,aFP M]
      exact vT rfl rfl pU
    rw[aFQ M,aFQ M]
    refine HI rfl rfl (QV h hr ho rfl rfl rfl rfl rfl rfl rfl rfl rfl ⟨x1,x2,rfl,x4,rfl⟩ ⟨fl,rfl,f2,f3,fun h0=>absurd h0.symm vS.2.2.2.1⟩ OF.symm ⟨?_,?_,?_,?_⟩)
    . show sW .str .bool (tA .str .bool wZ true P.seen) uK=s.bs
      rw[xQ,aFQ pU];exact s1
    . show sW .str .bool (tA .str .bool wZ true P.seen) uL=s.bt
      rw[xQ,aFQ pU];exact s2
    . show sW .str .bool (tA .str .bool wZ true P.seen) xR=s.bh
      rw[xQ,aFQ pU];exact s3
    show sW .str .bool (tA .str .bool wZ true P.seen) wZ=true
    rw[xQ,aFP rfl]
  rw[aFQ h3];by_cases h4:w.2.1=xR
  . rw[aFP h4]
    dsimp only;rw[E,h4,c4];cases I:G0 r with
    | none=>
      by_cases j:s.ends=[]
      . rw[aFP (by simp [j])]
        exact vT rfl rfl pU
      . rw[aFQ (by simp [zS,j]),aFQ pV,aFQ pV,aFQ pV,aFQ pV,aFP rfl,x5,f1,aFT,aFT,aFP HK,HJ,a1N,aFT,I]
        exact vT rfl rfl pU
    | some v=>
      show CW _ (rQ s nx (.sta v));by_cases j:s.ends=[]
      . rw[aFP (by simp [j]),rQ,aFP (.inr j)]
        exact vT rfl rfl pU
      rw[aFQ (by simp [zS,j]),aFQ pV,aFQ pV,aFQ pV,aFQ pV,aFP rfl,x5,f1,aFT,aFT,aFP HK,HJ,a1N,aFT,I,rQ,aFQ (show¬(s.op=false\/s.ends=[]) by simp [ho,j])]
      dsimp only;rw[s3];by_cases z:s.bh=true
      . rw[aFP z,aFP z]
        exact vT rfl rfl pU
      rw[aFQ z,aFQ z]
      refine HI rfl rfl (QV h hr ho rfl rfl rfl rfl rfl rfl rfl rfl rfl ⟨x1,x2,x3,rfl,rfl⟩ ⟨fl,rfl,f2,f3,fun h0=>absurd h0.symm vS.2.2.2.1⟩ OF.symm ⟨?_,?_,?_,?_⟩)
      . show sW .str .bool (tA .str .bool xR true P.seen) uK=s.bs
        rw[xQ,aFQ pU];exact s1
      . show sW .str .bool (tA .str .bool xR true P.seen) uL=s.bt
        rw[xQ,aFQ pU];exact s2
      . show sW .str .bool (tA .str .bool xR true P.seen) xR=true
        rw[xQ,aFP rfl]
      show sW .str .bool (tA .str .bool xR true P.seen) wZ=s.bf
      rw[xQ,aFQ pU];exact s4
  rw[aFQ h4];by_cases G:w.2.1=uL
  . rw[aFP G]
    dsimp only;rw[E,G,c3];cases I:tZ r with
    | none=>
      by_cases j:s.ends=[]
      . rw[aFP (by simp [j])]
        exact vT rfl rfl pU
      . rw[aFQ (by simp [zS,j]),aFQ pV,aFQ pV,aFQ pV,aFP rfl,x5,f1,aFT,aFT,aFP HK,HJ,a1M,aFT,I]
        exact vT rfl rfl pU
    | some t=>
      show CW _ (rQ s nx (.tgt t));by_cases j:s.ends=[]
      . rw[aFP (by simp [j]),rQ,aFP (.inr j)]
        exact vT rfl rfl pU
      rw[aFQ (by simp [zS,j]),aFQ pV,aFQ pV,aFQ pV,aFP rfl,x5,f1,aFT,aFT,aFP HK,HJ,a1M,aFT,I,rQ,aFQ (show¬(s.op=false\/s.ends=[]) by simp [ho,j])]
      dsimp only;rw[s2];by_cases z:s.bt=true
      . rw[aFP z,aFP z]
        exact vT rfl rfl pU
      rw[aFQ z,aFQ z]
      refine HI rfl rfl (QV h hr ho rfl rfl rfl rfl rfl rfl rfl rfl rfl ⟨x1,rfl,x3,x4,rfl⟩ ⟨fl,rfl,f2,f3,fun h0=>absurd h0 vS.2.2.2.2.2.2.2.2.2⟩ UP.symm ⟨?_,?_,?_,?_⟩)
      . show sW .str .bool (tA .str .bool uL true P.seen) uK=s.bs
        rw[xQ,aFQ pU];exact s1
      . show sW .str .bool (tA .str .bool uL true P.seen) uL=true
        rw[xQ,aFP rfl]
      . show sW .str .bool (tA .str .bool uL true P.seen) xR=s.bh
        rw[xQ,aFQ pU];exact s3
      show sW .str .bool (tA .str .bool uL true P.seen) wZ=s.bf
      rw[xQ,aFQ pU];exact s4
  rw[aFQ G];by_cases z:w.2.1=uK
  . rw[aFP z]
    dsimp only;rw[E,z,c2];cases I:tZ r with
    | none=>
      by_cases j:s.ends=[]
      . rw[aFP (by simp [j])]
        exact vT rfl rfl pU
      . rw[aFQ (by simp [zS,j]),aFQ pV,aFQ pV,aFP rfl,x5,f1,aFT,aFT,aFP HK,HJ,a1L,aFT,I]
        exact vT rfl rfl pU
    | some t=>
      show CW _ (rQ s nx (.src t));by_cases j:s.ends=[]
      . rw[aFP (by simp [j]),rQ,aFP (.inr j)]
        exact vT rfl rfl pU
      rw[aFQ (by simp [zS,j]),aFQ pV,aFQ pV,aFP rfl,x5,f1,aFT,aFT,aFP HK,HJ,a1L,aFT,I,rQ,aFQ (show¬(s.op=false\/s.ends=[]) by simp [ho,j])]
      dsimp only;rw[s1];by_cases z:s.bs=true
      . rw[aFP z,aFP z]
        exact vT rfl rfl pU
      rw[aFQ z,aFQ z]
      refine HI rfl rfl (QV h hr ho rfl rfl rfl rfl rfl rfl rfl rfl rfl ⟨rfl,x2,x3,x4,rfl⟩ ⟨fl,rfl,f2,f3,fun h0=>absurd h0 vS.2.2.2.2.2.2.2.2.1⟩ UO.symm ⟨?_,?_,?_,?_⟩)
      . show sW .str .bool (tA .str .bool uK true P.seen) uK=true
        rw[xQ,aFP rfl]
      . show sW .str .bool (tA .str .bool uK true P.seen) uL=s.bt
        rw[xQ,aFQ pU];exact s2
      . show sW .str .bool (tA .str .bool uK true P.seen) xR=s.bh
        rw[xQ,aFQ pU];exact s3
      show sW .str .bool (tA .str .bool uK true P.seen) wZ=s.bf
      rw[xQ,aFQ pU];exact s4
  rw[aFQ z];have h3:(rQ s nx (vP w.2.1 r)).1=3:=aBm ho nx Q z G h4 O K h3;dsimp only;rw[aFP (by simp [zS])];refine⟨_,rfl,h3.symm,fun h0=>?_⟩;rw[h3] at h0;cases h0
end
theorem aBp {s:St}(h:xF s) {P:Pg}(hr:ER s P) {line:pP}(hl:line.length<=1100000000) (hf:BE line=false) (nx:Int):
    CW (vC P.c P.pl P.id P.sc P.tg P.fg P.sv P.ap (P.ends,()) line nx P.cm P.n1 P.fl P.n2 P.seen P.ids) (tM s line nx):=by
  obtain⟨v,M,hm⟩:=a1u hl;unfold tM;rw[hf,aFQ pV];unfold vC;rw[M,aFT];cases hw:HG line with
  | none=>
    rw[hw] at hm;have hm:v.2=false:=hm;rw[aFP (by rw[hm];rfl)];exact vT rfl rfl pU
  | some l=>
    rw[hw] at hm;have hm:v=(l,true):=hm;subst hm
    have j:line.dropWhile tY≠[]:=fun e=>by
      unfold BE at hf;rw[e] at hf;cases hf
    have hne:=a1v _ _ _ hw j;have G:=bg _ _ _ hw;obtain⟨O,E⟩:=UJ _ _ _ hw;cases l with
    |nil=>exact absurd rfl hne
    | cons w r=>
      have F: ∀x∈r,BD line.length x:=fun x K=>G x (aF2 _ K);rw[aFQ pV,aFP yH];dsimp only;rw[show qV rO (w::r) (0:Int)=w from rfl];by_cases hq:w.1=true
      . rw[aFP hq]
        have D:((w::r).any fun x=> !x.1)=r.any fun x=> !x.1:=by rw[any_cons,hq];rfl
        have:=aBd h hr (l:=w::r) pT pT nx;rw[D] at this;show CW (Hw P (w::r)) (rQ s nx (zQ (w::r)));unfold zQ;dsimp only;rw[aFP hq];by_cases I:(r.any fun x=> !x.1)=true
        .rw[aFP I] at this|-;exact this
        rw[aFQ I] at this|-;exact this
      rw[aFQ hq]
      have hq:w.1=false:=by simpa using hq
      show CW (OG P (w::r) nx) (rQ s nx (zQ (w::r)));have z:zQ (w::r)=vP w.2.1 r:=by unfold zQ;dsimp only;rw[aFQ (by rw[hq];simp)]
      rw[z];cases ho:s.op with
      |false=>exact aBl h hr ho hq F nx
      |true=>exact aBo h hr ho (r:=r) (w:=w) (by simp only[aFV] at E;omega) nx
end
noncomputable section
theorem aBq {α β:Type}(o:Option α):(o.bind fun _=>(none:Option β))=none:=by cases o<;>rfl
theorem a1U (s:pP):GO s [10]=indexByte s 10:=index_one s 10
theorem a1V: ∀(l:pP),indexByte l 10<0->∀b∈l,b≠10
  |[],_,b,hb=>by cases hb
  | c::l,h,b,hb=>by
    rw[indexByte] at h;split at h
    .omega
    rename_i j
    have j:c≠10:=by simpa using j
    rcases aF1.1 hb with rfl|hb
    .exact j
    refine a1V l ?_ b hb
    have:=PH l 10;split at h
    . rename_i z
      simp only[aHr] at z;omega
    omega
theorem a1W: ∀(l:pP),0<=indexByte l 10->(l.take ((indexByte l 10).toNat+1)).getLast? =some 10/\(l.take ((indexByte l 10).toNat+1)).dropLast=l.take (indexByte l 10).toNat
  |[],h=>by simp [indexByte] at h
  | c::l,h=>by
    by_cases z:c=10
    . subst z
      have e:indexByte ((10:UInt8)::l) 10=0:=by rw[indexByte];rfl
      rw[e];exact⟨rfl,rfl⟩
    have E:=PH l 10
    have e:indexByte (c::l) 10=indexByte l 10+1/\0<=indexByte l 10:=by
      rw[indexByte,aFQ (by simpa using z)] at h|-;split at h
      .omega
      rename_i j
      simp only[aHr] at j;rw[aFQ (by simpa using j)];exact⟨rfl,pT⟩
    obtain⟨j,D⟩:=a1W l e.2;have e2:(indexByte (c::l) 10).toNat=(indexByte l 10).toNat+1:=by rw[e.1];omega
    rw[e2,take_succ_cons,take_succ_cons];have hne:l.take ((indexByte l 10).toNat+1)≠[]:=fun h0=>by rw[h0] at j;cases j
    refine⟨?_,?_⟩
    .rw[List.getLast?_cons,j];rfl
    rw[dropLast_cons_of_ne_nil hne,D]
theorem aBr {s:pP}(hs:s.length<=1100000000): ∃t,DN s [10]=some t/\t.1=if 0<=indexByte s 10 then s.take (indexByte s 10).toNat else s:=by
  have hi:=a1U s;have hr:=PH s 10;unfold DN KQ;rw[hi,aFP pT];by_cases h:0<=indexByte s 10
  . rw[aFP (aGx h),aFP ⟨pT,h,pT⟩,aFP (by simp;unfold qR;omega),aFP ⟨by simp;omega,by simp;omega,aGO _⟩,aFP h]
    refine⟨_,rfl,?_⟩;show sG s 0 (indexByte s 10)=_;unfold sG;simp
  rw[aFQ (by simpa using h),aFQ h];exact⟨_,rfl,rfl⟩
theorem a1X {s:pP}(hs:s.length<=1100000000) {a:Nat}(G:a<s.length): ∃t,DN (sG s (a:Int) (s.length:Int)) [10]=some t/\t.1=tV (G3 s a)/\min (s.length:Int) (((a:Int)+(t.1.length:Int))+1)=(tN s a:Nat)/\t.1.length<=s.length-a:=by
  rw[O8];obtain⟨t,I,E⟩:=aBr (s:=s.drop a) (by rw[aGp];omega);refine⟨t,I,?_⟩;have hr:=PH (s.drop a) 10;rw[aGp] at hr;have K:=UL G;by_cases h:0<=indexByte (s.drop a) 10
  . rw[aFP h] at E
    have j:tN s a=a+(indexByte (s.drop a) 10).toNat+1:=aFP h;have D:G3 s a=(s.drop a).take ((indexByte (s.drop a) 10).toNat+1):=by unfold G3;rw[j];congr 1;omega
    obtain⟨g1,g2⟩:=a1W _ h;have z:t.1.length=(indexByte (s.drop a) 10).toNat:=by rw[E,aGy,aGp];omega
    refine⟨?_,?_,?_⟩
    . unfold tV
      rw[D,aFP g1,g2,E]
    .rw[z,j,Int.min_eq_right pT];omega
    omega
  rw[aFQ h] at E
  have j:tN s a=s.length:=aFQ h;have D:G3 s a=s.drop a:=by unfold G3;rw[j];exact take_of_length_le (by rw[aGp];omega)
  have z:t.1.length=s.length-a:=by rw[E,aGp]
  refine⟨?_,?_,pT⟩
  . unfold tV
    rw[D,aFQ (fun F=>a1V (s.drop a) pT 10 (mem_of_getLast? F) rfl),E]
  rw[z,j,Int.min_eq_left pT]
theorem a1Y (s:pP):IQ s=some ()/\(!((decide ((trimLeftS s ([32,9]:pP))=([]:pP)))||(decide ((sK (trimLeftS s ([32,9]:pP)) (0:Int))=(35:Int)))))= !BE s:=by
  unfold IQ BE;rw[aAF];cases h:s.dropWhile tY with
  |nil=>exact⟨aFP (fun j=>by simp at j),rfl⟩
  | cons b t=>
    refine⟨aFP (fun _=>yH),?_⟩;rw[show sK (b::t) 0=(b.toNat:Int) from rfl,DZ (n:=35) 35 rfl];simp
theorem a1Z (w:Wd) (r:List Wd) (hw:w.1=false):(((!decide (((w::r).length:Int)=(2:Int)))||(qV rO (w::r) (0:Int)).1)||(!((qV rO (w::r) (1:Int)).1)))= !(tZ r).isSome:=a1R w r hw
theorem a2a (w:Wd) (r:List Wd):((((!decide (((w::r).length:Int)=(2:Int)))||(qV rO (w::r) (0:Int)).1)==false)=true->0<=(1:Int)/\(1:Int)<((w::r).length:Int)):=fun h=>by
  cases j:decide (((w::r).length:Int)=(2:Int)) with
  |false=>rw[j] at h;cases h
  |true=>have:=aGt j;omega
abbrev c0:sN:=(([]:pP),(([]:pQ),(([]:List r9),(([]:List sQ),()))))
abbrev UR (line:pP) (nx:Int):=A5 c0 (0:Int) ([]:pP) ([]:pP) ([]:pP) ([]:pQ) (0:Int) (([]:pZ),()) line nx (some ([]:pQ)) 0 (some ([]:List r9)) 0 ([]:pX)
abbrev Hy (line:pP) (nx:Int):=HC c0 (0:Int) ([]:pP) ([]:pP) ([]:pP) ([]:pQ) (0:Int) (([]:pZ),()) line nx (some ([]:pQ)) 0 (some ([]:List r9)) 0 ([]:pX)
theorem Hz (nx:Int) {c:wC}(j: ∀t,c≠.beg true t):(rQ tG nx c).1=3:=by
  cases c with
  |bad=>rfl
  | beg h t=>
    cases h with
    |true=>exact absurd rfl (j t)
    |false=>rfl
  |cont t=>rfl
  |com t=>rfl
  |src t=>rfl
  |tgt t=>rfl
  |sta v=>rfl
  |fld m v=>rfl
  |flg l=>rfl
  |fin=>rfl
theorem a2b {k:pP}{r:List Wd}{t:pP}(h:vP k r= .beg true t):k=E5/\tZ r=some t:=by
  unfold vP at h
  have one: ∀(f:pP->wC),(∀x,f x≠.beg true t)->((tZ r).map f).getD .bad≠.beg true t:=fun f hf=>by
    cases tZ r with
    |none=>intro h;cases h
    |some x=>exact hf x
  split at h
  . rename_i z
    refine⟨z,?_⟩;cases ho:tZ r with
    |none=>rw[ho] at h;cases h
    |some x=>rw[ho] at h;cases h;rfl
  split at h
  .exact absurd h (one _ fun x j=>by cases j)
  split at h
  .exact absurd h (one _ fun x j=>by cases j)
  split at h
  .exact absurd h (one _ fun x j=>by cases j)
  split at h
  .exact absurd h (one _ fun x j=>by cases j)
  split at h
  . cases hs:G0 r with
    |none=>rw[hs] at h;cases h
    |some v=>rw[hs] at h;cases h
  split at h
  . cases hs:G1 r with
    |none=>rw[hs] at h;cases h
    |some v=>rw[hs] at h;cases h
  split at h
  .split at h<;>cases h
  split at h
  .split at h<;>cases h
  cases h
theorem a2c {l:List Wd}(hl:l.length<=1100000000): ∀(n i:Nat) (a:pP),i+n=l.length->a.length+(tD (l.drop i)).flatten.length<=9000000000000000000->
    ∃q,sA (NR l) (a,(i:Int))=some q/\(q= .inr 3\/∃z,q= .inl z)
  | 0,i,a,hi,_=>by
    have:i=l.length:=by omega
    subst this;rw[vB];unfold NR;dsimp only;rw[aFQ (xD _)];exact⟨_,rfl,.inr ⟨_,rfl⟩⟩
  | n+1,i,a,hi,hb=>by
    have h:i<l.length:=by omega
    have D:(tD (l.drop i)).flatten=l[i].2.1++(tD (l.drop (i+1))).flatten:=by
      unfold tD;rw[aGs h,aGU,aGw]
    rw[D,aFR] at hb;rw[vB];generalize j:sA (NR l)=F;unfold NR;dsimp only;rw[aFP (vI h),aFP (tQ h),UI h];cases hq:l[i].1 with
    |false=>exact⟨_,rfl,.inl rfl⟩
    | true=>
      rw[aFQ pV,aFP (by rw[aFR];omega),aFP (w4 pT),aFT];dsimp only;rw[<-j,show ((i:Int)+1)=((i+1:Nat):Int) by omega];exact a2c hl n (i+1) _ pT (by rw[aFR];omega)
def LK (w:Wd) (r:List Wd):Option pP:=match tZ r with
  |some t=>if w.2.1=E5/\yC t=true then some t else none
  |none=>none
theorem a2d {w:Wd}{r:List Wd}(hq:w.1=false):BZ c0 (0:Int) ([]:pP) ([]:pP) ([]:pP) ([]:pQ) (0:Int) (([]:pZ),()) (w::r) (some ([]:pQ)) 0 (some ([]:List r9)) 0 ([]:pX)=(LK w r).map fun t=>(t,1,[],[]):=by
  unfold BZ LK;rw[a1Z w r hq,aFP (fun _=>yH),aFP (a2a w r)];cases j:tZ r with
  |none=>rfl
  | some t=>
    have z:=QR j;subst z;have F:qV rO [w,(true,t,())] (0:Int)=w:=rfl;have E:qV rO [w,(true,t,())] (1:Int)=(true,t,()):=rfl;have D:0<=(1:Int)/\(1:Int)<(List.length [w,(true,t,())]:Int):=by simp
    rw[F,E,Gp];dsimp only;rw[aFQ (show¬(!(some t).isSome)=true by simp),aFP D,aFP (fun _=>yH),aFP (fun _=>Option.isSome_some),show decide ((0:Int)=0)=true from rfl,Bool.true_and,show val (some (yC t))=yC t from rfl];by_cases h:w.2.1=E5/\yC t=true
    . rw[aFP h,show decide (w.2.1=([99,97,116,97,108,111,103]:pP))=true from aGx h.1,h.2]
      rfl
    rw[aFQ h,aFQ (by
      simp only[aF0,aFY];exact h)]
    rfl
theorem a2e {w:Wd}{r:List Wd}(hq:w.1=false):KY c0 (0:Int) ([]:pP) ([]:pP) ([]:pP) ([]:pQ) (0:Int) (([]:pZ),()) (w::r) (some ([]:pQ)) 0 (some ([]:List r9)) 0 ([]:pX)=match LK w r with|some _=>none|none=>some 3:=by
  unfold KY LK;rw[a1Z w r hq,aFP (fun _=>yH),aFP (a2a w r)];cases j:tZ r with
  |none=>rfl
  | some t=>
    have z:=QR j;subst z;have F:qV rO [w,(true,t,())] (0:Int)=w:=rfl;have E:qV rO [w,(true,t,())] (1:Int)=(true,t,()):=rfl;have D:0<=(1:Int)/\(1:Int)<(List.length [w,(true,t,())]:Int):=by simp
    rw[F,E,Gp];dsimp only;rw[aFQ (show¬(!(some t).isSome)=true by simp),aFP D,aFP (fun _=>yH),aFP (fun _=>Option.isSome_some),show decide ((0:Int)=0)=true from rfl,Bool.true_and,show val (some (yC t))=yC t from rfl];by_cases h:w.2.1=E5/\yC t=true
    . rw[aFP h,show decide (w.2.1=([99,97,116,97,108,111,103]:pP))=true from aGx h.1,h.2]
      rfl
    rw[aFQ h,aFQ (by
      simp only[aF0,aFY];exact h)]
    rfl
def QW (l:List Wd):Option pP:=match l with
  |[]=>none
  |w::r=>if w.1=true then none else LK w r
theorem aBs {l:List Wd}(hne:l≠[]) {N:Nat}(F: ∀w∈l,BD N w) (nx:Int):(rQ tG nx (zQ l)=match QW l with|some t=>(0,yG tG (t,tG.c.2) t) |none=>rQ tG nx (zQ l))/\(QW l=none->(rQ tG nx (zQ l)).1=3):=by
  cases l with
  |nil=>exact absurd rfl hne
  | cons w r=>
    have M: ∀x∈r,BD N x:=fun x K=>F x (aF2 _ K);unfold zQ QW;dsimp only;by_cases hq:w.1=true
    . rw[aFP hq,aFP hq]
      refine⟨rfl,fun _=>Hz nx fun t=>?_⟩;split<;>intro D<;>cases D
    rw[aFQ hq,aFQ hq]
    unfold LK;cases z:tZ r with
    | none=>
      refine⟨rfl,fun _=>Hz nx fun t D=>?_⟩;have:=(a2b D).2;rw[z] at this;cases this
    | some t=>
      dsimp only;by_cases E:w.2.1=E5
      . have I:vP w.2.1 r= .beg true t:=by rw[E];exact(a1D (k:=[]) z).1
        have G:rQ tG nx (.beg true t)=if yC t=true then(0,yG tG (t,tG.c.2) t) else(3,tG):=by rw[rQ,aFQ (by simp [tG,tS])]
        rw[I,G];by_cases j:yC t=true
        . rw[aFP j,aFP ⟨E,j⟩]
          exact⟨rfl,fun h=>by cases h⟩
        rw[aFQ j,aFQ (fun h=>j h.2)]
        exact⟨rfl,fun _=>rfl⟩
      rw[aFQ (fun h=>E h.1)]
      exact⟨rfl,fun _=>Hz nx fun t' D=>E (a2b D).1⟩
theorem aBt {line:pP}(hl:line.length<=1100000000) (hf:BE line=false) (nx:Int):
    (∃t,tM tG line nx=(0,yG tG (t,tG.c.2) t)/\UR line nx=some (t,1,[],[]))\/((tM tG line nx).1=3/\UR line nx=none/\Hy line nx=some 3):=by
  obtain⟨v,G,hm⟩:=a1u hl
  have h:tM tG line nx=match HG line with|none=>(3,tG) |some l=>rQ tG nx (zQ l):=by
    unfold tM;exact(aFQ (by rw[hf];simp)).trans rfl
  cases hw:HG line with
  | none=>
    rw[hw] at hm h;have hm:v.2=false:=hm;refine .inr ⟨by rw[h],?_,?_⟩
    . unfold UR A5
      rw[G,aFT,aFP (by rw[hm];rfl)]
    . unfold Hy HC
      rw[G,aFT,aFP (by rw[hm];rfl)]
  | some l=>
    rw[hw] at hm h;have hm:v=(l,true):=hm;subst hm
    have F:line.dropWhile tY≠[]:=fun e=>by
      unfold BE at hf;rw[e] at hf;cases hf
    have hne:=a1v _ _ _ hw F;have K:=bg _ _ _ hw;obtain⟨V,U⟩:=UJ _ _ _ hw;obtain⟨E,M⟩:=aBs hne K nx
    have I:UR line nx=(QW l).map fun t=>(t,1,[],[]):=by
      unfold UR A5 QW;rw[G,aFT];cases l with
      |nil=>exact absurd rfl hne
      | cons w r=>
        dsimp only;rw[aFQ pV,aFP yH,show qV rO (w::r) (0:Int)=w from rfl];by_cases hq:w.1=true
        .rw[aFP hq,aFP hq];exact aBq _
        rw[aFQ hq,aFQ hq,aFP pU]
        have hq:w.1=false:=by simpa using hq
        have D:=a2d (r:=r) hq;have hb:=a2e (r:=r) hq;unfold c0 at D hb;rw[D,hb];cases LK w r<;>rfl
    cases j:QW l with
    | some t=>
      rw[j] at E I;exact .inl ⟨t,h.trans E,I⟩
    | none=>
      rw[j] at I;refine .inr ⟨by rw[h];exact M j,I,?_⟩;unfold Hy HC;rw[G,aFT];cases l with
      |nil=>exact absurd rfl hne
      | cons w r=>
        dsimp only;rw[aFQ pV,aFP yH,show qV rO (w::r) (0:Int)=w from rfl];by_cases hq:w.1=true
        . rw[aFP hq]
          unfold NS;obtain⟨q,R,Q⟩:=a2c (l:=w::r) pT (w::r).length 0 [] pT (by rw[aG4,aF8];omega);have O:sA (NR (w::r)) (([]:pP),(0:Int))=some q:=R;rw[O];rcases Q with rfl|⟨z,rfl⟩<;>rfl
        have j:(if w.1=true then none else LK w r)=none:=j
        rw[aFQ hq] at j;rw[aFQ hq,aFP pU];have hq:w.1=false:=by simpa using hq
        have D:=a2d (r:=r) hq;have hb:=a2e (r:=r) hq;unfold c0 at D hb;rw[D,hb,j];rfl
end
noncomputable section
abbrev aBu:=Int×pP×pQ×(List r9)×(List sQ)×Int×pP×pP×pP×pQ×Int×Nat×pZ×(Option pQ)×Nat×(Option (List r9))×Nat×pX×pX
abbrev bp:=pP×pQ×(List r9)×(List sQ)×Int×pP×pP×pP×pQ×Int×Nat×pZ×(Option pQ)×Nat×(Option (List r9))×Nat×pX×pX
abbrev Pg.out (P:Pg):bp:=(P.c.1,P.c.2.1,P.c.2.2.1,P.c.2.2.2.1,P.pl,P.id,P.sc,P.tg,P.fg,P.sv,P.ap,P.ends,P.cm,P.n1,P.fl,P.n2,P.seen,P.ids)
abbrev Pg.inn (P:Pg) (a:Int):aBu:=(a,P.out)
def US (s:pP) (ok:Option bp) (er:Option (Int×Int)) (r:(Nat×Int)⊕St):Prop:=match r with
  | .inl q=>ok=none/\er=some ((q.1:Int),q.2)/\q.2≠0
  | .inr st=>if st.op=true\/st.ends=[] then ok=none/\er=some ((s.length:Int),3) else∃P,ER st P/\ok=some P.out
theorem Ia {s:pP}(hs:s.length<=1100000000): ∀(n a:Nat) (st:St) (P:Pg),xF st->ER st P->a<=s.length->s.length<n+a->
    US s (sA (B9 s) (.inr (P.inn a))) (sA (BA s) (.inr (P.inn a))) (CB s n st a)
  |0,a,st,P,hst,hr,ha,hn=>by omega
  | n+1,a,st,P,hst,hr,ha,hn=>by
    rw[CB];by_cases h:a<s.length
    . rw[aFP h]
      obtain⟨t,hd,Z,Y,hj⟩:=a1X hs h;have D:=UL h;obtain⟨hh,hg⟩:=a1Y t.1;have O:t.1.length<=1100000000:=by omega
      have M:0<=(a:Int)/\(a:Int)<=(s.length:Int)/\(s.length:Int)<=(s.length:Int):=⟨pT,pT,aGO _⟩;have I:qR ((a:Int)+(t.1.length:Int)):=by unfold qR;omega
      have E:qR (((a:Int)+(t.1.length:Int))+(1:Int)):=by unfold qR;omega
      rw[<-Z];rw[vB (B9 s),vB (BA s)];generalize R:sA (B9 s)=F;generalize hG:sA (BA s)=G;unfold B9 BA;dsimp only;rw[aFP (vI h),aFP (vI h),aFP M,aFP M,hd,aFT,aFT,aFP I,aFP I,aFP E,aFP E,hh,aFT,aFT,hg,Y];cases K:BE t.1 with
      | true=>
        have Q:tM st t.1 (tN s a:Nat)=(0,st):=by unfold tM;rw[K,aFP rfl]
        rw[aFQ (show¬(!true)=true by simp),aFQ (show¬(!true)=true by simp),Q,aFP rfl,aFT,aFT];dsimp only;rw[<-R,<-hG];exact Ia hs n (tN s a) st P hst hr D.2 pT
      | false=>
        rw[aFP (show (!false)=true from rfl),aFP (show (!false)=true from rfl)];obtain⟨v,hv,he,hz⟩:=aBp hst hr O K (tN s a:Nat);have X:vC (P.c.1,(P.c.2.1,(P.c.2.2.1,(P.c.2.2.2.1,())))) P.pl P.id P.sc P.tg P.fg P.sv P.ap (P.ends,()) t.1 ((tN s a:Nat):Int) P.cm P.n1 P.fl P.n2 P.seen P.ids=some v:=hv;rw[X,aFT,aFT,he];by_cases h0:(tM st t.1 (tN s a:Nat)).1=0
        . rw[h0,aFQ pV,aFQ pV,aFP rfl,aFT,aFT]
          dsimp only;rw[<-R,<-hG];exact Ia hs n (tN s a) _ (Hv v) (bn hst _ _ h0) (hz h0) D.2 pT
        rw[aFP (by simp [h0]),aFP (by simp [h0]),aFQ h0]
        exact⟨rfl,rfl,h0⟩
    rw[aFQ h]
    have R:decide ((a:Int)<(s.length:Int))=false:=decide_eq_false pT;rw[vB (B9 s),vB (BA s)];unfold B9 BA;dsimp only;rw[R,aFQ (show¬false=true by simp),aFQ (show¬false=true by simp)];unfold US;dsimp only;by_cases z:st.op=true\/st.ends=[]
    . rw[aFP z]
      have j:P.pl≠2:=by
        rw[hr.pl];rcases z with V|V
        .rw[aFP V];split<;>decide
        rcases hr.live with U|U
        .rw[aFP U];split<;>decide
        exact absurd V U
      rw[aFP (show (!decide (P.pl=(2:Int)))=true by simp [j]),aFP (show (!decide (P.pl=(2:Int)))=true by simp [j])];exact⟨rfl,rfl⟩
    rw[aFQ z]
    rw[not_or] at z;have j:P.pl=2:=by rw[hr.pl,aFQ z.1,aFQ z.2]
    rw[aFQ (show¬(!decide (P.pl=(2:Int)))=true by simp [j])];exact⟨P,hr,rfl⟩
theorem aBv (t:pP):ER (yG tG (t,tG.c.2) t) ⟨(t,([],([],([],())))),1,[],[],[],[],0,0,[],some [],0,some [],0,[],[]⟩ where
  c:=rfl
  ends:=rfl
  pl:=rfl
  x:=fun _=>⟨rfl,rfl,rfl,rfl,rfl⟩
  id:=fun _ h=>absurd rfl h
  fl:=fun _=>⟨[],rfl,rfl,nodup_nil,fun h=>absurd h.symm vS.2.2.2.1⟩
  ap:=OF.symm
  seen:=fun _=>⟨rfl,rfl,rfl,rfl⟩
  ids:=fun _=>rfl
  live:= .inl rfl
theorem aBw {t:pP}{line:pP}{nx:Int}(h:tM tG line nx=(0,yG tG (t,tG.c.2) t)):xF (yG tG (t,tG.c.2) t):=by
  have:=bn Hr line nx (by rw[h]);rw[h] at this;exact this
theorem a2f {s:pP}(hs:s.length<=1100000000): ∀(n a:Nat),a<=s.length->s.length<n+a->
    US s (sA (B9 s) (.inl (a:Int))) (sA (BA s) (.inl (a:Int))) (CB s n tG a)
  |0,a,ha,hn=>by omega
  | n+1,a,ha,hn=>by
    rw[CB];by_cases h:a<s.length
    . rw[aFP h]
      obtain⟨t,Y,X,V,he⟩:=a1X hs h;have z:=UL h;obtain⟨hc,Z⟩:=a1Y t.1;have M:t.1.length<=1100000000:=by omega
      have K:0<=(a:Int)/\(a:Int)<=(s.length:Int)/\(s.length:Int)<=(s.length:Int):=⟨pT,pT,aGO _⟩;have E:qR ((a:Int)+(t.1.length:Int)):=by unfold qR;omega
      have D:qR (((a:Int)+(t.1.length:Int))+(1:Int)):=by unfold qR;omega
      rw[<-X];rw[vB (B9 s),vB (BA s)];generalize Q:sA (B9 s)=F;generalize hG:sA (BA s)=G;unfold B9 BA;dsimp only;rw[aFP (vI h),aFP (vI h),aFP K,aFP K,Y,aFT,aFT,aFP E,aFP E,aFP D,aFP D,hc,aFT,aFT,Z,V];cases I:BE t.1 with
      | true=>
        have O:tM tG t.1 (tN s a:Nat)=(0,tG):=by unfold tM;rw[I,aFP rfl]
        rw[aFQ (show¬(!true)=true by simp),aFQ (show¬(!true)=true by simp),O,aFP rfl,aFT,aFT];dsimp only;rw[<-Q,<-hG];exact a2f hs n (tN s a) z.2 pT
      | false=>
        rw[aFP (show (!false)=true from rfl),aFP (show (!false)=true from rfl)];rcases aBt M I (tN s a:Nat) with⟨x,R,U⟩ |⟨R,U,h3⟩
        . have j:A5 (([]:pP),(([]:pQ),(([]:List r9),(([]:List sQ),())))) (0:Int) ([]:pP) ([]:pP) ([]:pP) ([]:pQ) (0:Int) (([]:pZ),()) t.1 ((tN s a:Nat):Int) (some ([]:pQ)) 0 (some ([]:List r9)) 0 ([]:pX)=some (x,1,[],[]):=U
          rw[j,R];simp only[Option.isSome_some,↓reduceIte,aFT,decide_true,Bool.not_true,aHh];rw[<-Q,<-hG];exact Ia hs n (tN s a) _ _ (aBw R) (aBv x) z.2 pT
        have j:A5 (([]:pP),(([]:pQ),(([]:List r9),(([]:List sQ),())))) (0:Int) ([]:pP) ([]:pP) ([]:pP) ([]:pQ) (0:Int) (([]:pZ),()) t.1 ((tN s a:Nat):Int) (some ([]:pQ)) 0 (some ([]:List r9)) 0 ([]:pX)=none:=U
        have hd:HC (([]:pP),(([]:pQ),(([]:List r9),(([]:List sQ),())))) (0:Int) ([]:pP) ([]:pP) ([]:pP) ([]:pQ) (0:Int) (([]:pZ),()) t.1 ((tN s a:Nat):Int) (some ([]:pQ)) 0 (some ([]:List r9)) 0 ([]:pX)=some 3:=h3;rw[j,hd,R];simp only[Option.isSome_none,aHh,↓reduceIte,aFT];rw[aFP (show (!decide ((3:Int)=(0:Int)))=true from rfl),aFP (show (!decide ((3:Int)=(0:Int)))=true from rfl),aFQ (show¬(3:Int)=0 by decide)];exact⟨rfl,rfl,show (3:Int)≠0 by decide⟩
    rw[aFQ h]
    have Q:decide ((a:Int)<(s.length:Int))=false:=decide_eq_false pT;rw[vB (B9 s),vB (BA s)];unfold B9 BA;dsimp only;rw[Q,aFQ (show¬false=true by simp),aFQ (show¬false=true by simp),aFP (show (!decide ((0:Int)=(2:Int)))=true from rfl),aFP (show (!decide ((0:Int)=(2:Int)))=true from rfl)];exact⟨rfl,rfl⟩
theorem Ib {s:pP}(hs:s.length<=1100000000):match CC s with
    | .inl q=>uU s=none/\JA s=some ((q.1:Int),q.2)/\q.2≠0
    | .inr st=> ∃P,ER st P/\uU s=some P.out/\st.op=false/\st.ends≠[]:=by
  have h:=a2f hs (s.length+1) 0 (aGS _) pT;unfold CC;unfold uU JA;have j:US s (sA (B9 s) (.inl (0:Int))) (sA (BA s) (.inl (0:Int))) (CB s (s.length+1) tG 0):=h;cases hr:CB s (s.length+1) tG 0 with
  |inl q=>rw[hr] at j;exact j
  | inr st=>
    rw[hr] at j;unfold US at j;dsimp only at j|-;by_cases z:st.op=true\/st.ends=[]
    . rw[aFP z] at j|-
      exact⟨j.1,j.2,show (3:Int)≠0 by decide⟩
    rw[aFQ z] at j|-
    obtain⟨P,E,D⟩:=j;rw[not_or] at z;exact⟨P,E,D,by simpa using z.1,z.2⟩
def aBx:(Nat×Int)⊕St->pP×pQ×(List r9)×(List sQ)×Int×Int
  | .inl q=>([],[],[],[],(q.1:Int),q.2)
  | .inr st=>(st.c.1,st.c.2.1,st.c.2.2.1,st.c.2.2.2.1,0,0)
theorem a2g {s:pP}(hs:s.length<=1100000000):A6 s=some (aBx (CC s)):=by
  have h:=Ib hs;unfold A6;cases hr:CC s with
  | inl q=>
    rw[hr] at h;obtain⟨z,j,h3⟩:=h;rw[z,j,aFQ pV,aFT,aFP (by simpa using h3)];rfl
  | inr st=>
    rw[hr] at h;obtain⟨P,z,j,_⟩:=h;rw[j,aFP (show (some P.out).isSome=true from rfl),aFT,aFQ (show¬(!decide ((0:Int)=(0:Int)))=true by decide)];show some (P.c.1,P.c.2.1,P.c.2.2.1,P.c.2.2.2.1,(0:Int),(0:Int))=_;rw[z.c];rfl
end
noncomputable section
def UT (a:Nat) (ends:pZ):Prop:= ∃l:qC,ends=l.map (fun n:Nat=>(n:Int))/\l.Pairwise (·<=·)/\∀x∈l,x<=a
theorem Ic {a b:Nat}(h:a<=b) {e:pZ}(z:UT a e):UT b e:=by
  obtain⟨l,E,D,h3⟩:=z;exact⟨l,E,D,fun x j=>aGL (h3 x j) h⟩
theorem aBy (s:St) (n:Int) (c:wC):(rQ s n c).2.ends=s.ends\/(rQ s n c).2.ends=s.ends++[n]:=by
  cases c with
  |cont t=>exact .inl (aA4 s n t).2.1
  |beg h t=>cases h<;>(rw[rQ];repeat' split)<;>exact .inl rfl
  | fin=>
    rw[rQ];split
    .exact .inl rfl
    .exact .inr rfl
  |bad=>exact .inl rfl
  | com t => rw[rQ];repeat' split
             all_goals exact .inl rfl
  | src t => rw[rQ];repeat' split
             all_goals exact .inl rfl
  | tgt t => rw[rQ];repeat' split
             all_goals exact .inl rfl
  | sta v => rw[rQ];repeat' split
             all_goals exact .inl rfl
  | fld m v => rw[rQ];repeat' split
               all_goals exact .inl rfl
  | flg l => rw[rQ];repeat' split
             all_goals exact .inl rfl
theorem aBz (s:St) (line:pP) (n:Int):(tM s line n).2.ends=s.ends\/(tM s line n).2.ends=s.ends++[n]:=by
  unfold tM;split
  .exact .inl rfl
  split
  .exact .inl rfl
  exact aBy _ _ _
theorem a2h {s:pP}: ∀(n a:Nat) (st st':St),a<=s.length->UT a st.ends->CB s n st a= .inr st'->UT s.length st'.ends
  |0,a,st,st',z,h,e=>by cases e;exact Ic z h
  | n+1,a,st,st',z,h,e=>by
    rw[CB] at e;split at e
    . rename_i F
      have E:=UL F;split at e
      . refine a2h n (tN s a) _ st' E.2 ?_ e
        rcases aBz st (tV (G3 s a)) (tN s a:Nat) with D|D
        .rw[D];exact Ic pT h
        rw[D]
        obtain⟨l,g1,g2,g3⟩:=h;refine⟨l++[tN s a],by rw[g1,map_append];rfl,aHL.2 ⟨g2,aHR _ _,fun x j y G=>?_⟩,fun x j=>?_⟩
        .rw[aF7.1 G];have:=g3 x j;omega
        rcases aGE.1 j with j|j
        .have:=g3 x j;omega
        rw[aF7.1 j];exact aGc _
      cases e
    cases e;exact Ic z h
theorem a2i {s:pP}{st:St}(h:CC s= .inr st):xF st/\st.op=false/\st.ends≠[]/\UT s.length st.ends/\AP st.c=true:=by
  unfold CC at h;cases hr:CB s (s.length+1) tG 0 with
  |inl q=>rw[hr] at h;cases h
  | inr st'=>
    rw[hr] at h;dsimp only at h;split at h
    .cases h
    rename_i z
    cases h;rw[not_or] at z;have j:=a1E _ _ _ Hr hr;exact⟨j,by simpa using z.1,z.2,a2h _ _ _ _ (aGS _) ⟨[],rfl,List.Pairwise.nil,fun x D=>(by cases D)⟩ hr,Hm (j.tag (.inl z.2)) j.hcm j.hfd j.es⟩
section
variable {s:pP}(hsm:s.length<=4000000000) {l:qC}(hne:l≠[]) (hs:l.Pairwise (·<=·)) (hle: ∀x∈l,x<=s.length) (hl:l.length<=5000)
include hsm hne hs hle hl in
theorem aBA {r:bp}(hr:r.2.2.2.2.2.2.2.2.2.2.2.1=l.map (fun n:Nat=>(n:Int))):
    sA (QG s r) (1,[])=some ((QP s l).drop 1):=by
  have j:0<l.length:=aGH.2 hne
  have h:=a1j (f:=QG s r) (n:=l.length-1) (fun i=>(((i+1:Nat):Int),((List.range (i+1)).map (pc s l)).drop 1)) (r:=(QP s l).drop 1)
    (fun i hi=>by
      have D:=Hi hle (show i+1<l.length by omega);have z:=aAy hs (show i<i+1 by omega) (show i+1<l.length by omega);unfold QG;dsimp only;rw[hr,aGV,aFP (vI pT),aFP (by unfold qR;omega),show (((i+1:Nat):Int)-1)=(i:Int) by omega,aFP (tQ pT),aFP (tQ pT),aw (show i<l.length by omega),aw (show i+1<l.length by omega),aFP ⟨Int.natCast_nonneg _,Int.ofNat_le.2 z,Int.ofNat_le.2 D⟩,aFP pW,aFP (w4 pT)];rw[range_succ (n:=i+1),map_append,drop_append_of_le_length pV];rfl)
    (by
      unfold QG;dsimp only;rw[hr,aGV,show l.length-1+1=l.length by omega,aFQ (xD _)]) (l.length-1) 0 pT
  exact h
include hsm hne hs hle hl in
theorem aBB {r:bp}(h:uU s=some r) (hr:r.2.2.2.2.2.2.2.2.2.2.2.1=l.map (fun n:Nat=>(n:Int))):
    DY s=some (pc s l 0,(QP s l).drop 1,sG s (QQ l:Nat) (s.length:Int),0):=by
  have j:0<l.length:=aGH.2 hne;have h0:=Hi hle j;have z:QQ l<=s.length:=Hi hle (show l.length-1<l.length by omega);unfold DY;rw[h,aFP (show (some r).isSome=true from rfl),aFT,aFQ (show¬(!decide ((0:Int)=(0:Int)))=true by decide),aBA hsm hne hs hle hl hr,hr,aGV,aFP ⟨aGO _,pT⟩];have n0:qV (.int .i64) (l.map (fun n:Nat=>(n:Int))) (0:Int)=(l.getD 0 0:Nat):=aw j
  have n1:qV (.int .i64) (l.map (fun n:Nat=>(n:Int))) ((l.length:Int)-1)=(QQ l:Nat):=by
    rw[show ((l.length:Int)-1)=((l.length-1:Nat):Int) by omega];exact aw pT
  rw[n0,n1,aFP ⟨aGO _,Int.natCast_nonneg _,Int.ofNat_le.2 h0⟩,aFP (by unfold qR;omega),aFP ⟨pT,pT⟩,aFP ⟨Int.natCast_nonneg _,Int.ofNat_le.2 z,aGO _⟩];rfl
end
theorem a2j (l:qC):(l.map (fun n:Nat=>(n:Int))).map Int.toNat=l:=by
  rw[map_map]
  conv=>rhs;rw[<-map_id l]
  congr 1
theorem aBC:QH=some true:=by kernel_rfl
end
theorem a2k (s:pP) (hs:sE s):L2 s=some (v7 s):=by
 unfold sE at hs;unfold L2;cases s with
 |nil=>simp [v7]
 |cons b t=>
  have D:sK (b::t) (0:Int)=(b.toNat:Int):=LD (i:=0) pV;rw[aFP (fun _=>⟨aGO 0,by simp only[aFV];omega⟩),D];unfold v7;by_cases hl:(40:Int)<((b::t).length:Int)
  .have j:40<t.length+1:=by simp only[aFV] at hl;omega
   rw[aFP (by simp only[hl,decide_true,Bool.or_true,Bool.true_or])];simp [j]
  have j: ¬40<t.length+1:=by simp only[aFV] at hl;omega
  have z: ¬((b::t).length:Int)<1:=by simp;omega
  by_cases hb:A7 b.toNat=true
  .rw[aFQ (by unfold A7 at hb;simp only[hl,z,hb];simp)];have h:=Gn (f:=TJ (b::t)) (l:=b::t) (fun b=>yZ b.toNat) (fun _=>false) (fun i h=>by
    unfold TJ;rw[aFP (vI h),aFP (tQ h),LD h,aFP (w4 pT)];rfl) (by
    unfold TJ;rw[aFQ (xD _)]) t.length 1 pW
   rw[show ((1:Nat):Int)=1 from rfl] at h;rw[h,QJ];simp only[aHO,aG4,hb,j,decide_false,Bool.not_false,Bool.true_and];cases t.any fun b=>yZ b.toNat<;>rfl
  rw[aFP (by unfold A7 at hb;simp only[hb];simp)];simp [hb]
theorem xS {p:Prop}{α:Type}{v:α}:p->(some v).isSome=true:=fun _=>rfl
theorem bq {ρ:Type}{f:Int->Option (Int⊕(Unit⊕ρ))}{n:Nat}(p:Nat->Bool) (g:Nat->ρ)
  (hf: ∀(i:Nat),i<n->f i=if p i=true then some (.inr (.inr (g i))) else some (.inl (i+1)))
  (j:f n=some (.inr (.inl ()))):sA f 0=some (zI (fun k=> .inr (g k)) (.inl ()) ((List.range n).findIdx? p)):=by
 refine LE (l:=List.range n) p g (fun i h=>?_) (by rw[length_range];exact j);have hi:i<n:=by rw[length_range] at h;exact h
 rw[getElem_range];exact hf i hi
theorem br {n:Nat}{p:Nat->Bool}{b:Bool}:uB (some (zI (fun _=>Sum.inr false) (Sum.inl ()) ((List.range n).findIdx? p))) (fun _:Unit=>some b)=some (!((List.range n).any p)&&b):=by
 rw[QJ];cases(List.range n).any p<;>rfl
theorem aBD {α:Type}{l:List α}{p:α->Bool}{b:Bool}:uB (some (zI (fun _=>Sum.inr false) (Sum.inl ()) (l.findIdx? p))) (fun _:Unit=>some b)=some (!(l.any p)&&b):=by
 rw[QJ];cases l.any p<;>rfl
theorem aBE (l:pQ) (hl:sE l) (j: ∀x∈l,sE x):EP l=some (wS l):=by
 unfold sE at hl;have h:=LE (f:=TT l) (l:=l) (fun x=> !sX x) (fun _=>false) (fun i h=>by
  obtain⟨D,z⟩:=U7 l[i] (j _ (aGG h));unfold TT;rw[aFP (vI h),aFP (tQ h),EQ (t:= .str) h,D,aFT,z,aFP (w4 pT)]) (by
  unfold TT;rw[aFQ (xD _)])
 unfold EP;rw[h,aBD,wS,Bool.and_comm]
theorem aBF (l:pQ) (hl:sE l) (j: ∀x∈l,sE x):CU l=some (l.any fun x=> !sX x):=by
 unfold sE at hl;have h:=LE (f:=TP l) (l:=l) (fun x=> !sX x) (fun k=>(k:Int)) (fun i h=>by
  have z:=OA l[i] (j _ (aGG h));unfold TP TO;rw[aFP (vI h),aFP (tQ h),EQ (t:= .str) h,z,aFT,aFT,aFP (w4 pT)];rfl) (by
  unfold TP;rw[aFQ (xD _)])
 unfold CU Q9;rw[h,U6];show some (decide _)=_;rw[a00]
theorem a2l (l:pQ) (hl:sE l) (h: ∀x∈l,sE x):O1 l=some ()/\((decide ((l.length:Int)<=20))&&(!(val (CU l))))=wS l:=by
 unfold O1;rw[aBF l hl h];exact⟨aFP xS,rfl⟩
theorem Id {l:pQ}{i:Nat}:qV .str l (i:Int)=l.getD i []:=by unfold qV;rw[aGI];rfl
theorem a2m {l:pQ}{i:Nat}:qV .str l ((i:Int)-1)=l.getD (i-1) []:=by
 unfold qV;rw[show ((i:Int)-1).toNat=i-1 by omega];rfl
theorem bu {i:Nat}:decide ((0:Int)<(i:Int))=decide (0<i):=by simp
theorem aBG (l:pQ) (hl:sE l):IS l=some (CV l):=by
 unfold sE at hl;have h:=bq (f:=T5 l) (n:=l.length) (U8 l) (fun _=>false) (fun i h=>by
  unfold T5;rw[aFP (vI h),aFP (tQ h),Id,a2m,aa,aFT,bu];have h0: ∀q:Bool,((q==false)&&(decide (0<i)==true))=true->0<i:=fun q hq=>by
   simp only[aF0,aHr,aFY] at hq;exact hq.2
  rw[aFP (fun hq=>by have:=h0 _ hq;unfold qR;omega),aFP (fun hq=>by have:=h0 _ hq;omega),aFP (w4 pT)];rfl) (by
  unfold T5;rw[aFQ (xD _)])
 unfold IS;rw[h,br];rfl
theorem aBH (l:pQ) (hl:sE l) (j: ∀x∈l,sE x):FQ l=some (CV l):=by
 unfold sE at hl;have h:=bq (f:=TL l) (n:=l.length) (U8 l) (fun _=>false) (fun i h=>by
  unfold TL;have hf:sE (l.getD i []):=by rw[aGb,aFW h];exact j _ (aGG h)
  rw[aFP (vI h),aFP (tQ h),Id,a2m,a2k _ hf,aFT,bu];have h0: ∀q:Bool,((q==false)&&(decide (0<i)==true))=true->0<i:=fun q hq=>by
   simp only[aF0,aHr,aFY] at hq;exact hq.2
  rw[aFP (fun _=>tQ h),aFP (fun hq=>by have:=h0 _ hq;unfold qR;omega),aFP (fun hq=>by have:=h0 _ hq;omega),aFP (w4 pT),<-Gx];rfl) (by
  unfold TL;rw[aFQ (xD _)])
 unfold FQ;rw[h,br];rfl
theorem Ie {l:List t6}{i:Nat}:qV rP l (i:Int)=l.getD i fD:=by unfold qV;rw[aGI];rfl
theorem a2n {l:List t6}{i:Nat}:qV rP l ((i:Int)-1)=l.getD (i-1) fD:=by
 unfold qV;rw[show ((i:Int)-1).toNat=i-1 by omega];rfl
def UU (x:t6):Prop:=sE x.1/\sE x.2.1
theorem QX {α:Type}{l:List α}{i:Nat}{d:α}(h:i<l.length):l.getD i d∈l:=by
 rw[aGb,aFW h];exact aGG h
theorem bw {i:Nat}{q:Bool}(hq:((q==false)&&(decide (0<i)==true))=true):0<i:=by
 simp only[aF0,aHr,aFY] at hq;exact hq.2
theorem a2o (l:List t6) (hl:sE l) (j: ∀x∈l,UU x):H5 l=some (wB l):=by
 unfold sE at hl;have h:=bq (f:=TM l) (n:=l.length) (U9 l) (fun _=>false) (fun i h=>by
  unfold TM;have hf:=j _ (QX (d:=fD) h);rw[aFP (vI h),aFP (tQ h),Ie,a2n,aa,aFT,bu,OA _ hf.2];rw[aFP xS,aFP (fun hq=>by have:=bw hq;unfold qR;omega),aFP (fun hq=>by have:=bw hq;omega),aFP (w4 pT)];rfl) (by
  unfold TM;rw[aFQ (xD _)])
 unfold H5;rw[h,br];rfl
theorem aBI (l:List t6) (hl:sE l) (j: ∀x∈l,UU x):H8 l=some (wB l):=by
 unfold sE at hl;have h:=bq (f:=TU l) (n:=l.length) (U9 l) (fun _=>false) (fun i h=>by
  unfold TU;have hf:=j _ (QX (d:=fD) h);obtain⟨D,z⟩:=U7 _ hf.2;rw[aFP (vI h),aFP (tQ h),Ie,a2n,a2k _ hf.1,aFT,bu,D,z];rw[aFP (fun _=>tQ h),aFP xS,aFP (fun _=>tQ h),aFP (fun hq=>by have:=bw hq;unfold qR;omega),aFP (fun hq=>by have:=bw hq;omega),aFP (w4 pT),<-Gx];rfl) (by
  unfold TU;rw[aFQ (xD _)])
 unfold H8;rw[h,br];rfl
structure bx (x:tI):Prop where
 id:sE x.1
 src:sE x.2.1
 tgt:sE x.2.2.1
 com:sE x.2.2.2.1/\∀y∈x.2.2.2.1,sE y
 flg:sE x.2.2.2.2.1/\∀y∈x.2.2.2.2.1,sE y
 fld:sE x.2.2.2.2.2.2.1/\∀y∈x.2.2.2.2.2.2.1,UU y
theorem aBJ (x:tI) (h:bx x):LB x=some (yE x):=by
 obtain⟨t1,t2⟩:=a2l _ h.com.1 h.com.2;have e1:=aBG _ h.flg.1;have e2:=a2o _ h.fld.1 h.fld.2;unfold LB;rw[OA _ h.id,OA _ h.src,OA _ h.tgt,t1,t2,e1,e2];have k: ∀s:pP,(decide ((s.length:Int)<=4000)&&validD s)=sX s:=fun s=>rfl;rw[aFP xS,aFT,aFP xS,aFP xS,aFP xS,aFP xS,k,k,k];unfold yE;show (if _ then some false else some _)=_;have a1:decide ((200:Int)<(x.1.length:Int))= !decide ((x.1.length:Int)<=200):=by rw[<-decide_not];exact aHq.2 pT
 have a2:decide (x.2.2.2.2.2.1<(0:Int))= !decide ((0:Int)<=x.2.2.2.2.2.1):=by rw[<-decide_not];exact aHq.2 pT
 have a3:decide ((4:Int)<x.2.2.2.2.2.1)= !decide (x.2.2.2.2.2.1<=(4:Int)):=by rw[<-decide_not];exact aHq.2 pT
 rw[a1,a2,a3];show (if _ then some false else some (((((sX x.2.1&&sX x.2.2.1)&&wS x.2.2.2.1)&&CV x.2.2.2.2.1))&&wB x.2.2.2.2.2.2.1))=_;generalize decide (x.1=[])=b1;generalize decide ((x.1.length:Int)<=200)=b2;generalize sX x.1=b3;generalize sX x.2.1=b4;generalize sX x.2.2.1=b5;generalize wS x.2.2.2.1=b6;generalize CV x.2.2.2.2.1=b7;generalize decide ((0:Int)<=x.2.2.2.2.2.1)=b8;generalize decide (x.2.2.2.2.2.1<=(4:Int))=b9;generalize wB x.2.2.2.2.2.2.1=b10;cases b1<;>cases b2<;>cases b3<;>cases b8<;>cases b9<;>simp
theorem aBK (x:tI) (h:bx x):QB x=some ()/\((((((((((!decide (x.1=([]:pP)))&&(decide ((x.1.length:Int)<=(200:Int))))&&((decide ((x.1.length:Int)<=(4000:Int)))&&(val (uZ x.1))))&&((decide ((x.2.1.length:Int)<=(4000:Int)))&&(val (uZ x.2.1))))&&((decide ((x.2.2.1.length:Int)<=(4000:Int)))&&(val (uZ x.2.2.1))))&&(val (EP x.2.2.2.1)))&&(val (FQ x.2.2.2.2.1)))&&(decide ((0:Int)<=x.2.2.2.2.2.1)))&&(decide (x.2.2.2.2.2.1<=(4:Int))))&&(val (H8 x.2.2.2.2.2.2.1)))=yE x:=by
 obtain⟨u1,v1⟩:=U7 _ h.id;obtain⟨u2,v2⟩:=U7 _ h.src;obtain⟨u3,v3⟩:=U7 _ h.tgt;have e0:=aBE _ h.com.1 h.com.2;have e1:=aBH _ h.flg.1 h.flg.2;have e2:=aBI _ h.fld.1 h.fld.2;unfold QB;rw[u1,u2,u3,v1,v2,v3,e0,e1,e2];refine⟨?_,?_⟩
 .rw[aFP xS,aFP xS,aFP xS,aFP xS,aFP xS,aFP xS]
 unfold yE;show (((((((((!_&&_)&&_)&&_)&&_)&&wS x.2.2.2.1)&&CV x.2.2.2.2.1)&&_)&&_)&&wB x.2.2.2.2.2.2.1)=_;simp only[Bool.and_assoc]
def If (ids:pX) (es:List sQ):Prop:= ∀x,sW .str .bool ids x=es.any fun y=>decide (y.1=x)
theorem aBL {ids:pX}{es:List sQ}(h:If ids es) (e:sQ) (x:pP) (z:e.1=x):If (tA .str .bool x true ids) (es++[e]):=by
 intro y;rw[xQ,any_append,<-h y];by_cases j:y=x
 .rw[aFP j];simp [z,j]
 rw[aFQ j];have:decide (e.1=y)=false:=by rw[z];simpa using fun D=>j D.symm
 simp [this]
theorem a2p {l:List tI}{i:Nat}:qV tE l (i:Int)=l.getD i eD:=by unfold qV;rw[aGI];rfl
structure Ig (c:C4):Prop where
 tag:sE c.1
 com:sE c.2.1/\∀y∈c.2.1,sE y
 fld:sE c.2.2.1/\∀y∈c.2.2.1,UU y
 len:c.2.2.2.1.length<=5000
 ent: ∀x∈c.2.2.2.1,bx x
theorem aBM {α:Type}{l:List α}{i:Nat}{d:α}(h:i<l.length):l.take (i+1)=l.take i++[l.getD i d]:=by
 rw[take_add_one,aFW h,aGb,aFW h];rfl
theorem a2q {c:C4}(j:Ig c): ∀(n i:Nat) (m:pX),i+n=c.2.2.2.1.length->If m (c.2.2.2.1.take i)->
  sA (O2 c) ((i:Int),m)=some (if (List.range' i n).any (JF c.2.2.2.1)=true then .inr false else .inl ())
 |0,i,m,hi,_=>by
  have:i=c.2.2.2.1.length:=by omega
  subst this;refine zZ ?_;unfold O2;dsimp only;rw[aFQ (xD _)];rfl
 |n+1,i,m,hi,hm=>by
  have h:i<c.2.2.2.1.length:=by omega
  have z:=j.ent _ (QX (d:=eD) h);have hl:=j.len;have hst:O2 c ((i:Int),m)=if JF c.2.2.2.1 i=true then some (.inr (.inr false)) else some (.inl (((i+1:Nat):Int),tA .str .bool (c.2.2.2.1.getD i eD).1 true m)):=by
   unfold O2;dsimp only;rw[aFP (vI h),aFP (tQ h),a2p,hm,aBJ _ z,aFP xS,aFP (w4 pT)];rfl
  rw[aHD,any_cons];by_cases hb:JF c.2.2.2.1 i=true
  .rw[aFP hb] at hst;rw[hb,Bool.true_or,aFP rfl];exact zZ hst
  rw[aFQ hb] at hst;rw[KA hst,a2q j n (i+1) _ pT (by rw[aBM (d:=eD) h];exact aBL hm _ _ rfl)];simp only[aGZ] at hb;rw[hb,Bool.false_or]
theorem aBN {c:C4}(h:Ig c):O3 c=some (AP c):=by
 obtain⟨t1,t2⟩:=a2l _ h.com.1 h.com.2;have e2:=a2o _ h.fld.1 h.fld.2;have j:=a2q h c.2.2.2.1.length 0 [] pT (fun x=>by rfl);rw[<-range_eq_range'] at j;have z:sA (O2 c) ((0:Int),[])=_:=j;have a1:decide ((1000:Int)<(c.2.2.2.1.length:Int))= !decide ((c.2.2.2.1.length:Int)<=1000):=by rw[<-decide_not];exact aHq.2 pT
 unfold O3;rw[Gp,aFT,t1,t2,e2,aFP xS,aFP xS,z,a1];unfold AP;show (if (((!yC c.1)||(!wS c.2.1))||(!wB c.2.2.1)||_)=true then some false else _)=_
 generalize yC c.1=b1;generalize wS c.2.1=b2;generalize wB c.2.2.1=b3;generalize decide ((c.2.2.2.1.length:Int)<=1000)=b4;generalize (List.range c.2.2.2.1.length).any (JF c.2.2.2.1)=b5;cases b1<;>cases b2<;>cases b3<;>cases b4<;>cases b5<;>rfl
def wK:Nat:=140737488351232
theorem a2r {l:pQ}(hl:l.length<=wK) (j: ∀x∈l,x.length<=wK): ∀(m i:Nat) (n:Int),i+m=l.length->0<=n->n<=1125899906842624->
  ∃r,sA (KM l) (n,(i:Int))=some r/\n<=r/\r<=1125899906842624/\(r<1099511627776->∀x∈l.drop i,n+(x.length:Int)<=r)
 |0,i,n,hi,h0,z=>by
  have:i=l.length:=by omega
  subst this;refine⟨n,zZ ?_,aGO _,z,fun _ x j=>by rw[aGN] at j;cases j⟩;unfold KM;dsimp only;rw[aFQ pV]
 |m+1,i,n,hi,h0,z=>by
  have h:i<l.length:=by omega
  by_cases E:n<1099511627776
  .have D:=j _ (aGG h);unfold wK at D hl;have hst:KM l (n,(i:Int))=some (.inl (n+(l[i].length:Int),((i+1:Nat):Int))):=by
    unfold KM;dsimp only;rw[aFP (by simp [h,E]),aFP (tQ h),EQ (t:= .str) h,aFP (by unfold qR;omega),aFP (by unfold qR;omega)];rfl
   obtain⟨r,e,e1,e2,e3⟩:=a2r (by unfold wK;exact hl) j m (i+1) (n+(l[i].length:Int)) pT pT pT;refine⟨r,by rw[KA hst,e],pT,e2,fun hr x hxm=>?_⟩;rw[aGs h] at hxm;rcases aF1.1 hxm with rfl|hxm
   .omega
   have:=e3 hr x hxm;omega
  refine⟨n,zZ ?_,aGO _,z,fun hr=>by omega⟩;unfold KM;dsimp only;rw[aFQ (by simp [E])]
theorem a2s {l:List t6}(hl:l.length<=wK) (j: ∀x∈l,x.1.length<=wK/\x.2.1.length<=wK): ∀(m i:Nat) (n:Int),i+m=l.length->0<=n->n<=1125899906842624->
  ∃r,sA (KN l) (n,(i:Int))=some r/\n<=r/\r<=1125899906842624/\(r<1099511627776->∀x∈l.drop i,n+(x.1.length:Int)+(x.2.1.length:Int)<=r)
 |0,i,n,hi,h0,z=>by
  have:i=l.length:=by omega
  subst this;refine⟨n,zZ ?_,aGO _,z,fun _ x j=>by rw[aGN] at j;cases j⟩;unfold KN;dsimp only;rw[aFQ pV]
 |m+1,i,n,hi,h0,z=>by
  have h:i<l.length:=by omega
  by_cases E:n<1099511627776
  .have D:=j _ (aGG h);unfold wK at D hl;have hst:KN l (n,(i:Int))=some (.inl (n+(l[i].1.length:Int)+(l[i].2.1.length:Int),((i+1:Nat):Int))):=by
    unfold KN;dsimp only;rw[aFP (by simp [h,E]),aFP (tQ h),EQ (t:= .pair .str (.pair .str .unit)) h,aFP (by unfold qR;omega),aFP (tQ h),aFP (by unfold qR;omega),aFP (by unfold qR;omega)];rfl
   obtain⟨r,e,e1,e2,e3⟩:=a2s (by unfold wK;exact hl) j m (i+1) (n+(l[i].1.length:Int)+(l[i].2.1.length:Int)) pT pT pT;refine⟨r,by rw[KA hst,e],pT,e2,fun hr x hxm=>?_⟩;rw[aGs h] at hxm;rcases aF1.1 hxm with rfl|hxm
   .omega
   have:=e3 hr x hxm;omega
  refine⟨n,zZ ?_,aGO _,z,fun hr=>by omega⟩;unfold KN;dsimp only;rw[aFQ (by simp [E])]
def G5 (l:pQ):Prop:=l.length<=6000/\∀x∈l,x.length<=6000
def LL (l:List t6):Prop:=l.length<=6000/\∀x∈l,x.1.length<=6000/\x.2.1.length<=6000
theorem a2t {l:pQ}{f:List t6}(hl:l.length<=wK) (D: ∀x∈l,x.length<=wK) (hf:f.length<=wK) (z: ∀x∈f,x.1.length<=wK/\x.2.1.length<=wK):
  ∃r,A1 l f=some r/\0<=r/\r<=1125899906842624/\(r<=6000->G5 l/\LL f):=by
 have h:=hl;have j:=hf;unfold wK at h j;obtain⟨r,e,e1,e2,e3⟩:=a2r hl D l.length 0 ((l.length:Int)+(f.length:Int)) pT pT pT;obtain⟨r',k,k1,k2,k3⟩:=a2s hf z f.length 0 r pT pT e2;have e':sA (KM l) ((l.length:Int)+(f.length:Int),(0:Int))=some r:=e;have k':sA (KN f) (r,(0:Int))=some r':=k;refine⟨r',?_,pT,k2,fun hr=>⟨⟨pT,fun x hxm=>?_⟩,⟨pT,fun x hxm=>?_⟩⟩⟩
 .unfold A1;rw[aFP (by unfold qR;omega),e'];unfold uS;rw[aFT,k',aFT]
 .have:=e3 pT x (by rw[aG4];exact hxm);omega
 have:=k3 pT x (by rw[aG4];exact hxm);omega
structure Ih (x:tI):Prop where
 id:x.1.length<=wK
 src:x.2.1.length<=wK
 tgt:x.2.2.1.length<=wK
 com:x.2.2.2.1.length<=wK/\∀y∈x.2.2.2.1,y.length<=wK
 flg:x.2.2.2.2.1.length<=wK/\∀y∈x.2.2.2.2.1,y.length<=wK
 fld:x.2.2.2.2.2.2.1.length<=wK/\∀y∈x.2.2.2.2.2.2.1,y.1.length<=wK/\y.2.1.length<=wK
structure QY (x:tI):Prop where
 id:x.1.length<=6000
 src:x.2.1.length<=6000
 tgt:x.2.2.1.length<=6000
 com:G5 x.2.2.2.1
 flg:G5 x.2.2.2.2.1
 fld:LL x.2.2.2.2.2.2.1
theorem aBO (x:tI) (h:Ih x): ∃b:Bool,Q1 x=some ()/\
  ((decide ((((x.1.length:Int)+(x.2.1.length:Int))+(x.2.2.1.length:Int))<=(6000:Int)))&&(decide (((val (A1 x.2.2.2.1 x.2.2.2.2.2.2.1))+(val (A1 x.2.2.2.2.1 ([]:List r9))))<=(6000:Int))))=b/\(b=true->QY x):=by
 obtain⟨r,e,e1,e2,e3⟩:=a2t h.com.1 h.com.2 h.fld.1 h.fld.2;obtain⟨r',k,k1,k2,k3⟩:=a2t (f:=[]) h.flg.1 h.flg.2 (by unfold wK;simp) (fun x z=>by cases z);have a1:=h.id;have a2:=h.src;have a3:=h.tgt;unfold wK at a1 a2 a3;refine⟨_,?_,rfl,fun hb=>?_⟩
 .unfold Q1;rw[e,k,aFP (by unfold qR;omega),aFP (by unfold qR;omega),aFP xS,aFP xS,aFP (fun _=>by show qR (r+r');unfold qR;omega)]
 rw[e,k] at hb;simp only[aF0,aFY] at hb;obtain⟨D,j⟩:=hb;have j:r+r'<=6000:=j;obtain⟨p,q⟩:=e3 pT;obtain⟨p',_⟩:=k3 pT;exact⟨pT,pT,pT,p,p',q⟩
structure bz (c:C4):Prop where
 tag:c.1.length<=100
 com:G5 c.2.1
 fld:LL c.2.2.1
 len:c.2.2.2.1.length<=1000
 ent: ∀x∈c.2.2.2.1,QY x
theorem LM {l:pP}(h:l.length<=6000):sE l:=by unfold sE;omega
theorem Ii {l:pQ}(h:G5 l):sE l/\∀y∈l,sE y:=⟨by have:=h.1;unfold sE;omega,fun y j=>LM (h.2 y j)⟩
theorem a2u {l:List t6}(h:LL l):sE l/\∀y∈l,UU y:=⟨by have:=h.1;unfold sE;omega,fun y j=>⟨LM (h.2 y j).1,LM (h.2 y j).2⟩⟩
theorem QY.fitP {x:tI}(h:QY x):bx x:=⟨LM h.id,LM h.src,LM h.tgt,Ii h.com,Ii h.flg,a2u h.fld⟩
theorem bz.fitP {c:C4}(h:bz c):Ig c:=⟨LM (by have:=h.tag;omega),Ii h.com,a2u h.fld,by have:=h.len;omega,fun x j=>(h.ent x j).fitP⟩
theorem a2v {σ ρ α:Type}{f:σ->Option (σ⊕ρ)}(st:Int->List α->σ) (out:List α->ρ) {n M B:Nat}(g:Nat->List α) (h: ∀i,i<n->(g i).length<=B)
  (hf: ∀(i:Nat) s,i<n->s.length+B<=M->f (st i s)=some (.inl (st ((i:Int)+1) (s++g i)))) (j: ∀s,f (st n s)=some (.inr (out s))):
  ∀(k i:Nat) (s:List α),i+k=n->s.length+k*B<=M->sA f (st i s)=some (out (s++(List.range' i k).flatMap g))
 |0,i,s,hi,_=>by
  have:i=n:=by omega
  subst this;rw[zZ (j s)];simp
 |k+1,i,s,hi,z=>by
  rw[aG5] at z;have D:=h i pT;rw[KA (hf i s pT pT),show ((i:Int)+1)=((i+1:Nat):Int) by omega,a2v st out g h hf j k (i+1) (s++g i) pT (by rw[aFR];omega),aHD,aHf,aF3]
theorem a2w {α:Type}{g:Nat->List α}{B:Nat}: ∀(k i:Nat),(∀j,i<=j->j<i+k->(g j).length<=B)->((List.range' i k).flatMap g).length<=k*B
 |0,i,_=>by simp
 |k+1,i,h=>by
  rw[aHD,aHf,aFR,aG5];have D:=a2w k (i+1) fun j D z=>h j pT pT;have z:=h i pT pT;omega
theorem ca {σ ρ α:Type}{f:σ->Option (σ⊕ρ)}(st:Int->List α->σ) (out:List α->ρ) {n M B:Nat}(g:Nat->List α) (h: ∀i,i<n->(g i).length<=B) (s:List α) (z:s.length+n*B<=M)
  (hf: ∀(i:Nat) s,i<n->s.length+B<=M->f (st i s)=some (.inl (st ((i:Int)+1) (s++g i)))) (j: ∀s,f (st n s)=some (.inr (out s))):
  sA f (st 0 s)=some (out (s++(List.range' 0 n).flatMap g)):=a2v st out g h hf j n 0 s pT z
theorem Ij {α β:Type}{l:List α}{d:α}(h:α->List β):(List.range' 0 l.length).flatMap (fun i=>h (l.getD i d))=l.flatMap h:=by
 have e:(List.range' 0 l.length).map (fun i=>l.getD i d)=l:=by
  apply ext_getElem
  .simp
  intro i z j;simp [aGb,j]
 conv=>rhs;rw[<-e]
 rw[flatMap_map]
theorem QZ {α β:Type}{l:List α}{h:α->List β}{B:Nat}(hb: ∀x∈l,(h x).length<=B):(l.flatMap h).length<=l.length*B:=by
 induction l with
 |nil=>simp
 |cons x l ih=>
  rw[aHf,aFR,aFV,aG5];have D:=hb x aGa;have z:=ih fun y j=>hb y (aF2 _ j);omega
def z8 (n b:Nat) (first:Bool):pP:=(L3 (n:Int) (b:Int) first).getD []
theorem aBP:((List.range 256).all fun b=>[true,false].all fun f=>decide (L3 2 (b:Int) f=some (z8 2 b f))&&(decide (Af 2 (b:Int) f=some (z8 2 b f))&&decide ((z8 2 b f).length<=6)))=true:=by kernel_rfl
theorem a2x {n b:Nat}(j:n=2) (hb:b<256) (f:Bool):L3 (n:Int) (b:Int) f=some (z8 n b f)/\Af (n:Int) (b:Int) f=some (z8 n b f)/\(z8 n b f).length<=6:=by
 have hf:f∈[true,false]:=by cases f<;>simp
 subst j;have h:=aGK.1 (aGK.1 aBP b (by simpa using hb)) f hf;simpa using h
def OH (n:Nat) (s:pP) (i:Nat):pP:=z8 n (s.getD i 0).toNat (decide (i=0))
def xG (n:Nat) (s:pP):pP:=(List.range' 0 s.length).flatMap (OH n s)
theorem a2y {n:Nat}(h:n=2) (s:pP) (i:Nat):(OH n s i).length<=6:=(a2x h (UInt8.toNat_lt _) _).2.2
theorem Ik {n:Nat}(h:n=2) (s:pP):(xG n s).length<=6*s.length:=by
 have:=a2w (g:=OH n s) (B:=6) s.length 0 fun j _ _=>a2y h s j;unfold xG;omega
theorem aBQ {s:pP}{i:Nat}:sK s (i:Int)=((s.getD i 0).toNat:Int):=by unfold sK;rw[aGI]
theorem aBR {i:Nat}:decide ((i:Int)=0)=decide (i=0):=aHq.2 pT
theorem aBS {l:qC}{g:Nat->pP}:l.flatMap (fun i=>uY (g i))=uY (l.flatMap g):=by
 induction l with
 |nil=>rfl
 |cons x l ih=>rw[aHf,aHf,Hc,ih]
theorem a2z (l:pP):(uY l).length=l.length:=by simp [uY]
theorem aBT {n:Nat}(z:n=2) {s:pP}(hs:sE s):L6 (n:Int) s=some (xG n s):=by
 unfold sE at hs;have j: ¬decide ((n:Int)=4)=true:=by simp;omega
 have h:=ca (f:=TN (n:Int) s) (fun i b=>(i,b)) (fun b=>b) (n:=s.length) (M:=10000000000000) (B:=6) (fun i=>uY (OH n s i)) (fun i _=>by rw[a2z];exact a2y z s i) [] pW (fun i b hi D=>by
  obtain⟨e1,_,e3⟩:=a2x z (UInt8.toNat_lt (s.getD i 0)) (decide (i=0));unfold TN;dsimp only;rw[aFP (vI hi),aFQ j,aFP (tQ hi),aBQ,aBR,e1,aFT];unfold EL;rw[aFP (by dsimp only;omega),aFT,aFP (w4 pT)];rfl) (fun b=>by
  unfold TN;dsimp only;rw[aFQ (xD _)])
 unfold L6;rw[aFQ pW,h,aBS];unfold uS;rw[aFT,nil_append,Hd];rfl
def CX (h:pP) (l:pQ) (t:pP):pP:=h++(l.flatten++t)
theorem a2A {f:(Int×pP)->pZ->Option (pZ⊕pP)}(hf: ∀it b,b.length+it.2.length<=140737488355328->f it b=some (.inl (b++uY it.2))): ∀(l:List (Int×pP)) (b:pZ),
  b.length+((l.map (·.2)).flatten).length<=140737488355328->B4 f l b=some (.inl (b++uY (l.map (·.2)).flatten))
 |[],b,_=>by simp [B4,uY]
 |it::l,b,h=>by
  simp only[aGU,aGw,aFR] at h;unfold B4;rw[hf it b pT,aFT];show B4 f l _=_;rw[a2A hf l _ (by rw[aFR,a2z];omega)];simp only[aGU,aGw,Hc,aF3]
theorem a2B (d:IK):((DD d).map (·.2)).flatten=CX d.1 d.2.1 d.2.2.1:=by
 unfold DD CX;have e:(List.range d.2.1.length).map (fun j=>d.2.1.getD j [])=d.2.1:=by
  apply ext_getElem
  .simp
  intro i z h;simp [aGb,h]
 have e2:(((List.range d.2.1.length).map fun j:Nat=>((j:Int)+1,d.2.1.getD j [])).map (·.2))=d.2.1:=by
  rw[map_map];exact e
 simp only[aGU,map_append,map_nil,aGw,flatten_append,flatten_nil,append_nil,e2,aF3]
theorem a2C (d:IK) (hl:d.2.1.length<=900000) (hb:(CX d.1 d.2.1 d.2.2.1).length<=140737488355328):KX d=some (CX d.1 d.2.1 d.2.2.1):=by
 have h:=a2A (f:=ZA) (fun it b h=>by
  unfold ZA EL;rw[aFP h,aFT]) (DD d) [] (by rw[a2B];simpa using hb)
 unfold KX;rw[aFP pT,h,a2B];unfold uB;dsimp only;rw[aFT];simp only[nil_append,Hd]
theorem a2D {l:pQ}(h:G5 l) {i:Nat}(hi:i<l.length):(l.getD i []).length<=6000:=h.2 _ (QX hi)
theorem a2E {l:List t6}(h:LL l) {i:Nat}(hi:i<l.length):(l.getD i fD).1.length<=6000/\(l.getD i fD).2.1.length<=6000:=h.2 _ (QX hi)
theorem a2F {n:Int}(h0:0<=n) (h:n<=4):(qV .str wR n).length<=10:=by
 have:n=0\/n=1\/n=2\/n=3\/n=4:=by omega
 rcases this with rfl|rfl|rfl|rfl|rfl<;>decide
theorem aBU {α β:Type}{f:α->β}{l:List α}:l.flatMap (fun x=>[f x])=l.map f:=by
 induction l with
 |nil=>rfl
 |cons x l ih=>rw[aHf,ih];rfl
theorem aBV {x:tI}(h:yE x=true):0<=x.2.2.2.2.2.1/\x.2.2.2.2.2.1<=4:=by
 unfold yE at h;simp only[aF0,aFY] at h;exact h.1.2
def CD (n:Nat):Bool->pP->pP
 |_,[]=>[]
 |f,b::t=>z8 n b.toNat f++CD n false t
theorem a2G (n:Nat): ∀(s:pP) (p:pP),p≠[]->(List.range' p.length s.length).flatMap (OH n (p++s))=CD n false s
 |[],p,_=>by simp [CD]
 |b::t,p,hp=>by
  have hl:0<p.length:=aGH.2 hp;rw[aFV,aHD,aHf];have j:OH n (p++b::t) p.length=z8 n b.toNat false:=by
   unfold OH;rw[show decide (p.length=0)=false by simp;exact hp];congr 2;rw[aGb,aFZ (aGc _),aHm];rfl
  have h:=a2G n t (p++[b]) pV;rw[aFR,aG2,aF3,aHH] at h;rw[j,h];rfl
theorem Il (n:Nat) (s:pP):xG n s=CD n true s:=by
 cases s with
 |nil=>rfl
 |cons b t=>
  unfold xG;rw[aFV,aHD,aHf];have h:=a2G n t [b] pV;rw[aG2,aHH] at h;rw[aGk,h];rfl
theorem aBW {e:pP}(t:pP) (h:(zP e).2=e.length) (h0:e≠[]):zP (e++t)=zP e:=by
 match e,h,h0 with
 |[a],h,_=>simp [zP] at h
 |a::c::u,h,_=>
  show zP (a::c::(u++t))=zP (a::c::u);simp only[zP] at h|-;split
  .rfl
  rename_i F;rw[aFQ F] at h;split
  .rfl
  rename_i E;rw[aFQ E] at h;split
  .rfl
  rename_i h3;rw[aFQ h3] at h;split
  .rfl
  rename_i h4;rw[aFQ h4] at h;by_cases z:c=120/\2<=u.length
  .rw[aFP z,aFP ⟨z.1,by rw[aFR];omega⟩,aHC z.2]
  rw[aFQ z] at h|-;by_cases j:c=117/\4<=u.length
  .have: ¬(c=120/\2<=(u++t).length):=fun D=>by
    have:=j.1.symm.trans D.1;exact absurd this pU
   rw[aFQ this,aFP j,aFP ⟨j.1,by rw[aFR];omega⟩,aHC j.2]
  rw[aFQ j] at h;simp at h
theorem aBX {n:Int}{e:pP}(t:pP) (h:(vO n e).2=e.length) (h0:e≠[]):vO n (e++t)=vO n e:=by
 match e,h,h0 with
 |b::u,h,_=>
  show vO n (b::(u++t))=_;by_cases hb:b=92
  .rw[UB hb] at h|-;rw[UB hb];exact aBW (e:=b::u) t h pV
  by_cases j:JE n b=true
  .rw[UC hb j,UC hb j]
  rw[UD hb j,UD hb j]
theorem aBY:((List.range 256).all fun b=>[true,false].all fun f=>decide (vO 2 (z8 2 b f)=([b.toUInt8],(z8 2 b f).length))&&(decide (z8 2 b f≠[])&&decide (uH 34 (z8 2 b f++[34])=some (z8 2 b f).length)))=true:=by kernel_rfl
def R0 (_n:Nat):UInt8:=34
theorem a2H {n:Nat}(z:n=2) (b:UInt8) (f:Bool):vO (n:Int) (z8 n b.toNat f)=([b],(z8 n b.toNat f).length)/\z8 n b.toNat f≠[]/\uH (R0 n) (z8 n b.toNat f++[R0 n])=some (z8 n b.toNat f).length:=by
 have hf:f∈[true,false]:=by cases f<;>simp
 have hb:b.toNat<256:=UInt8.toNat_lt b;have j:b.toNat.toUInt8=b:=by simp
 subst z;have h:=aGK.1 (aGK.1 aBY b.toNat (by simpa using hb)) f hf;simp only[aF0,aFY,j] at h;exact⟨h.1,h.2.1,h.2.2⟩
theorem a2I {n:Nat}(D:n=2): ∀(s:pP) (f:Bool) (k:Nat),(CD n f s).length<=k->C8 (n:Int) k (CD n f s)= .inl s
 |[],f,k,_=>by
  cases k<;>rfl
 |b::t,f,k,j=>by
  obtain⟨z,h,_⟩:=a2H D b f;unfold CD at j|-;obtain⟨e,E⟩: ∃e,z8 n b.toNat f=e:=⟨_,rfl⟩;rw[E] at z h j|-;have hp:=aBX (CD n false t) (by rw[z]) h;rw[z] at hp;rw[aFR] at j;have hl:0<e.length:=aGH.2 h;obtain⟨k',rfl⟩: ∃k',k=k'+1:=⟨k-1,pT⟩;obtain⟨a,u,rfl⟩: ∃a u,e=a::u:=by
   cases e with
   |nil=>exact absurd rfl h
   |cons a u=>exact⟨a,u,rfl⟩
  rw[cons_append] at hp|-;unfold C8;rw[hp,aFQ pV];dsimp only;rw[<-cons_append,aHY,a2I D t false k' pT];rfl
theorem aBZ {n:Nat}(h:n=2) (s:pP):xE (n:Int) (xG n s)=(s,0,0):=by
 unfold xE;rw[Il,a2I h s true _ (aGc _)]
theorem Im {d:UInt8}: ∀(m:Nat) (e t:pP),e.length<=m->uH d (e++[d])=some e.length->uH d (e++t)=(uH d t).map (· +e.length)
 |_,[],t,_,_=>by simp
 |0,_::_,_,h,_=>by simp at h
 |m+1,b::u,t,hm,h=>by
  rw[cons_append] at h|-;rw[aFV] at hm;by_cases hb:b=d
  .rw[ai hb] at h;simp at h
  by_cases j:b=92
  .rw[aj hb j] at h;rw[aj hb j];cases u with
   |nil=>simp [ah] at h
   |cons c v=>
    simp only[cons_append,aHO,aG4] at h|-;rw[aFV] at hm;have z:uH d (v++[d])=some v.length:=by
     cases hq:uH d (v++[d]) with
     |none=>rw[hq] at h;cases h
     |some k=>rw[hq] at h;simp at h;rw[h]
    rw[Im m v t pT z,Option.map_map];congr 1
  rw[ak hb j] at h;rw[ak hb j];have z:uH d (u++[d])=some u.length:=by
   cases hq:uH d (u++[d]) with
   |none=>rw[hq] at h;cases h
   |some k=>rw[hq] at h;simp at h;rw[h]
  rw[Im m u t pT z,Option.map_map];congr 1
theorem a2J {n:Nat}(h:n=2): ∀(s:pP) (f:Bool) (t:pP),uH (R0 n) (CD n f s++t)=(uH (R0 n) t).map (· +(CD n f s).length)
 |[],f,t=>by simp [CD]
 |b::u,f,t=>by
  obtain⟨_,_,h3⟩:=a2H h b f;unfold CD;rw[aF3,Im _ _ _ (aGc _) h3,a2J h u false t,Option.map_map];congr 1;funext k;simp only[Function.comp,aFR];omega
theorem aB0 {n:Nat}(h:n=2) (s z:pP):uH (R0 n) (xG n s++R0 n::z)=some (xG n s).length:=by
 rw[Il,a2J h,ai rfl];simp
theorem aB1 {l:List t6}{n v:pP}(h: ∀y∈l,y.1<n):yD l n v=l++[(n,(v,()))]:=by
 have E:z6 l n=none:=by
  unfold z6;rw[aGM];intro y j;have:=h y j;simp only[aGu];intro D;rw[D] at this;exact List.lt_irrefl _ this
 have z:v8 l n=l.length:=by
  unfold v8;rw[aGM.2 fun y j=>by rw[HD];simp [h y j]];rfl
 unfold yD;rw[E,z,take_length,aGN,append_nil];rfl
theorem a2K {n:Int}(h0:0<=n) (h4:n<=4):A8 (qV .str wR n)=n:=by
 have:n=0\/n=1\/n=2\/n=3\/n=4:=by omega
 rcases this with rfl|rfl|rfl|rfl|rfl<;>decide
theorem a2L {x:pP}(h:yC x=true):sX x=true:=by
 unfold yC at h;simp only[aF0,aGj,aGA,aGZ,aFY] at h;obtain⟨h0,D,z⟩:=h;unfold sX;rw[aF0,aFY];refine⟨pT,a1l fun c j=>?_⟩;have:=h0 c j;unfold U5 at this;simp only[aHJ,aHu,aF0,aHb,aFY,aGu] at this;omega
theorem Io {l:pQ}(h:l.length<=20/\∀y∈l,y.length<=4000):G5 l:=⟨pT,fun y j=>by have:=h.2 y j;omega⟩
theorem a2M {l:List t6}(h:l.length<=20/\∀y∈l,y.1.length<=4000/\y.2.1.length<=4000):LL l:=⟨pT,fun y j=>by have:=h.2 y j;omega⟩
theorem Hn.few {x:tI}(h:Hn x):QY x:=⟨by have:=h.id;omega,by have:=h.src;omega,by have:=h.tgt;omega,Io h.com,Io h.flg,a2M h.fld⟩
theorem a2N {c:C4}(h:AP c=true):bz c:=by
 obtain⟨z,F,h3,h4,E,_⟩:=UG h;obtain⟨c1,c2⟩:=HE F;obtain⟨g1,g2,g3⟩:=HF h3;refine⟨?_,Io ⟨c1,fun y j=>C9 (c2 y j)⟩,a2M ⟨g1,fun y j=>⟨C9 (g2 y j).2.1,C9 (g2 y j).2.2⟩⟩,h4,fun x D=>(a1n (E x D)).few⟩;unfold yC at z;simp only[aF0,aFY] at z;omega
def xT:Nat->pQ->qC
 |_,[]=>[]
 |a,x::ps=>(a+x.length)::xT (a+x.length) ps
theorem cb: ∀(a:Nat) (ps:pQ),(xT a ps).length=ps.length
 |_,[]=>rfl
 |a,x::ps=>by rw[xT,aFV,aFV,cb]
theorem ce: ∀(ps:pQ) (a j:Nat),j<=ps.length->(a::xT a ps).getD j 0=a+(ps.take j).flatten.length
 |_,a,0,_=>by simp
 |[],_,_+1,h=>by simp at h
 |x::ps,a,j+1,h=>by
  rw[xT,getD_cons_succ,ce ps (a+x.length) j (by simpa using h),take_succ_cons,aGw,aFR];omega
theorem aB2 (ps:pQ) (j:Nat):ps.flatten=(ps.take j).flatten++(ps.drop j).flatten:=by
 rw[<-flatten_append,aG1]
theorem Ip {s a b c:pP}(h:s=a++(b++c)):sG s (a.length:Nat) ((a.length+b.length:Nat):Int)=b:=by
 unfold sG;rw[aGI,aGI,h,aHY,aGB,aHe]
theorem aB3 {s:pP}{l:qC}{j:Nat}(h:j<l.length):(QP s l)[j]? =some (pc s l j):=by
 unfold QP;rw[List.getElem?_map,List.getElem?_range h];rfl
section
variable {s p0 t:pP}{ps:pQ}(hs:s=p0++(ps.flatten++t))
include hs
theorem aB4:pc s (p0.length::xT p0.length ps) 0=p0:=by
 have h:s=[]++(p0++(ps.flatten++t)):=hs;have:=Ip h;simp only[aF8,aGk] at this;exact this
theorem aB5:(QP s (p0.length::xT p0.length ps)).drop 1=ps:=by
 apply ext_getElem?;intro j;rw[List.getElem?_drop];by_cases h:j<ps.length
 .rw[aB3 (by rw[aFV,cb];omega),aFW h];congr 1;have e1:(p0.length::xT p0.length ps).getD j 0=p0.length+(ps.take j).flatten.length:=ce ps _ j pT;have e2:(p0.length::xT p0.length ps).getD (1+j) 0=p0.length+(ps.take (1+j)).flatten.length:=ce ps _ _ pT;have e3:(ps.take (1+j)).flatten=(ps.take j).flatten++ps[j]:=by
   rw[Nat.add_comm,take_add_one,aFW h,flatten_append];simp
  have e4:s=(p0++(ps.take j).flatten)++(ps[j]++((ps.drop (j+1)).flatten++t)):=by
   rw[hs,aB2 ps j,aGs h,aGw];simp only[aF3]
  have e5:=Ip e4;rw[aFR] at e5;show sG s ((if 1+j=0 then 0 else(p0.length::xT p0.length ps).getD (1+j-1) 0:Nat):Int) (((p0.length::xT p0.length ps).getD (1+j) 0:Nat):Int)=_;rw[aFQ pT,aGB,e1,e2,e3,aFR,<-aGv];exact e5
 rw[aG7 (show ps.length<=j by omega),aG7];simp [cb];omega
theorem aB6:sG s (QQ (p0.length::xT p0.length ps):Nat) (s.length:Int)=t:=by
 have e1:QQ (p0.length::xT p0.length ps)=p0.length+ps.flatten.length:=by
  unfold QQ;rw[aFV,cb,Nat.add_sub_cancel,ce ps _ _ (aGc _),take_length]
 have e4:s=(p0++ps.flatten)++(t++[]):=by rw[hs];simp
 have e5:=Ip e4;rw[aFR] at e5;have e6:s.length=p0.length+ps.flatten.length+t.length:=by rw[hs];simp only[aFR];omega
 rw[e1,e6];exact e5
end
theorem zK {l:pP}(h:l.length<=4000000000):(l.length:Int)<=9223372036854775807:=by omega
def qt (s:pP):pP:=(([34]:pP)++xG 2 s)++([34]:pP)
theorem ES {s:pP}(h:s.length<=6000):(qt s).length<=36002:=by
  have:=Ik (n:=2) rfl s;simp only[qt,aFR,aFV,aF8];omega
theorem OI {s:pP}(h:s.length<=6000):C6 s=some (qt s):=by
  have j:=Ik (n:=2) rfl s;unfold C6;rw[show L6 (2:Int) s=some (xG 2 s) from aBT (n:=2) rfl (LM h),aFT]
  repeat rw[aFP (zK (by simp only[aFR,aFV,aF8];omega))]
  rfl
abbrev cf:pP:=([32,32,99,111,109,109,101,110,116,32]:pP)
abbrev a2O:pP:=([32,32,102,105,101,108,100,32]:pP)
abbrev AA:pP:=([32,32,115,111,117,114,99,101,32]:pP)
abbrev AR:pP:=([32,32,116,97,114,103,101,116,32]:pP)
abbrev LN:pP:=([32,32,115,116,97,116,101,32]:pP)
abbrev R1:pP:=([32,32,102,108,97,103,115,32]:pP)
abbrev a2P:pP:=([10,101,110,116,114,121,32]:pP)
abbrev HL:pP:=([101,110,100,10]:pP)
abbrev LO:pP:=([99,97,116,97,108,111,103,32]:pP)
def xH (s:pP):pP:=(cf++qt s)++[10]
def HO (l:pQ):pP:=l.flatMap xH
theorem a2Q {s:pP}(h:s.length<=6000):(xH s).length<=36013:=by
  have:=ES h;simp only[xH,aFR,aFV,aF8];omega
theorem Iq {l:pQ}(h:G5 l):(HO l).length<=216078000:=by
  have:=QZ (l:=l) (h:=xH) (B:=36013) fun x j=>a2Q (h.2 x j);have z:=h.1;unfold HO
  calc _<=l.length*36013:=this
    _<=6000*36013:=aHa _ z
theorem a2R {l:pQ}(h:G5 l):L8 l=some (HO l):=by
  have hl:=h.1
  have k:=ca (f:=TR l) (fun i s=>(s,i)) (fun s=>s) (n:=l.length) (M:=1000000000) (B:=36013) (fun i=>xH (l.getD i [])) (fun i hi=>a2Q (a2D h hi)) [] pW (fun i s hi z=>by
    have j:=a2D h hi;have D:=ES j;unfold TR;dsimp only;rw[aFP (vI hi),aFP (tQ hi),Id,OI j,aFT]
    repeat rw[aFP (zK (by simp only[aFR,aFV,aF8];omega))]
    rw[aFP (w4 pT)];rfl) (fun b=>by
    unfold TR;dsimp only;rw[aFQ (xD _)])
  unfold L8;rw[k,Ij (l:=l) (d:=[]) xH];rfl
def AB (f:t6):pP:=(((a2O++qt f.1)++[32])++qt f.2.1)++[10]
def JG (l:List t6):pP:=l.flatMap AB
theorem a2S {f:t6}(h:f.1.length<=6000/\f.2.1.length<=6000):(AB f).length<=72014:=by
  have z:=ES h.1;have j:=ES h.2;simp only[AB,aFR,aFV,aF8];omega
theorem a2T {l:List t6}(h:LL l):(JG l).length<=432084000:=by
  have:=QZ (l:=l) (h:=AB) (B:=72014) fun x j=>a2S (h.2 x j);have z:=h.1;unfold JG
  calc _<=l.length*72014:=this
    _<=6000*72014:=aHa _ z
theorem Ir {l:List t6}(h:LL l):J6 l=some (JG l):=by
  have hl:=h.1
  have k:=ca (f:=TS l) (fun i s=>(s,i)) (fun s=>s) (n:=l.length) (M:=1000000000) (B:=72014) (fun i=>AB (l.getD i fD)) (fun i hi=>a2S (a2E h hi)) [] pW (fun i s hi z=>by
    have j:=a2E h hi;have D:=ES j.1;have h3:=ES j.2;unfold TS;dsimp only;rw[aFP (vI hi),aFP (tQ hi),Ie,OI j.1,aFT]
    repeat rw[aFP (zK (by simp only[aFR,aFV,aF8];omega))]
    rw[OI j.2,aFT]
    repeat rw[aFP (zK (by simp only[aFR,aFV,aF8];omega))]
    rw[aFP (w4 pT)];rfl) (fun b=>by
    unfold TS;dsimp only;rw[aFQ (xD _)])
  unfold J6;rw[k,Ij (l:=l) (d:=fD) AB];rfl
theorem Is (x:pP) (r:pQ):y9 (x::r) [32]=x++r.flatMap (fun y=>[32]++y):=by
  unfold y9;rw[join_cons];unfold joinTail;rw[flatMap_def]
theorem a2U {l:pQ}(h:G5 l):(y9 l [32]).length<=36012000:=by
  cases l with
  |nil=>simp [y9,join_nil]
  | cons x r=>
    rw[Is,aFR];have z:=h.1;have D:=h.2 x aGa
    have h3:=QZ (l:=r) (h:=fun y=>[32]++y) (B:=6001) fun y j=>by
      have:=h.2 y (aF2 _ j);simp only[aFR,aFV,aF8];omega
    simp only[aFV] at z;have h4:r.length*6001<=6000*6001:=aHa _ pT;omega
def JH (l:pQ):pP:=if l=[] then[] else(R1++y9 l [32])++[10]
theorem aB7 {l:pQ}(h:G5 l):(JH l).length<=36012009:=by
  unfold JH;split
  .simp
  have:=a2U h
  simp only[aFR,aFV,aF8];omega
def HP (p s:pP):pP:=if s=[] then[] else(p++qt s)++[10]
def R2 (n:Int):pP:=if n=0 then[] else(LN++qV .str wR n)++[10]
theorem a2V {p s:pP}(hp:p.length<=10) (h:s.length<=6000):(HP p s).length<=36013:=by
  have:=ES h;unfold HP;split
  .simp
  simp only[aFR,aFV,aF8];omega
theorem a2W {n:Int}(h0:0<=n) (h4:n<=4):(R2 n).length<=19:=by
  have:=a2F h0 h4;unfold R2;split
  .simp
  simp only[aFR,aFV,aF8];omega
def iA (x:tI):pP:=((a2P++qt x.1)++[10])++HO x.2.2.2.1
def iB (x:tI):pP:=iA x++HP AA x.2.1
def iC (x:tI):pP:=iB x++HP AR x.2.2.1
def iD (x:tI):pP:=iC x++R2 x.2.2.2.2.2.1
def iE (x:tI):pP:=iD x++JH x.2.2.2.2.1
def BF (x:tI):pP:=(iE x++JG x.2.2.2.2.2.2.1)++HL
section
variable {x:tI}(h:QY x) (h0:0<=x.2.2.2.2.2.1) (h4:x.2.2.2.2.2.1<=4)
include h
theorem a2X:(iA x).length<=216114010:=by
  have z:=ES h.id;have j:=Iq h.com;simp only[iA,aFR,aFV,aF8];omega
theorem a2Y:(iB x).length<=216150023:=by
  have z:=a2X h;have j:=a2V (p:=AA) pU h.src;unfold iB;rw[aFR];omega
theorem a2Z:(iC x).length<=216186036:=by
  have z:=a2Y h;have j:=a2V (p:=AR) pU h.tgt;unfold iC;rw[aFR];omega
include h0 h4
theorem a23:(iD x).length<=216186055:=by
  have z:=a2Z h;have j:=a2W h0 h4;unfold iD;rw[aFR];omega
theorem aB8:(iE x).length<=252198064:=by
  have z:=a23 h h0 h4;have j:=aB7 h.flg;unfold iE;rw[aFR];omega
theorem aB9:0<=x.2.2.2.2.2.1/\x.2.2.2.2.2.1<(wR.length:Int):=⟨h0,by simp only[wR,aFV,aF8];omega⟩
theorem aCa:O0 x=some (BF x):=by
  have l1:=ES h.id;have l2:=Iq h.com;have l3:=ES h.src;have l4:=ES h.tgt;have l5:=a2F h0 h4;have l6:=a2T h.fld;have l7:=a2X h;have l8:=a2Y h;have l9:=a2Z h;have l10:=a23 h h0 h4;have l11:=aB8 h h0 h4;have z:=h.flg.1;have hst:=aB9 h h0 h4;unfold O0;rw[OI h.id,aFT,aFP (zK (by simp only[aFR,aFV,aF8];omega)),aFP (zK (by simp only[aFR,aFV,aF8];omega)),a2R h.com,aFT,aFP (zK (l:=((a2P++qt x.1)++[10])++HO x.2.2.2.1) (show (iA x).length<=_ by omega))]
  have e1:(if (!decide (x.2.1=([]:pP)))=true then
       (C6 x.2.1).bind fun O=>
       if ((AA++O).length:Int)<=9223372036854775807 then
        if (((AA++O)++([10]:pP)).length:Int)<=9223372036854775807 then
         if ((iA x++((AA++O)++([10]:pP))).length:Int)<=9223372036854775807 then
          some ((iA x++((AA++O)++([10]:pP))))
         else none
        else none
       else none
      else some (iA x))=some (iB x):=by
    unfold iB HP;by_cases e:x.2.1=[]
    .rw[aFQ (by simp [e]),aFP e,append_nil]
    rw[aFP (by simp [e]),aFQ e,OI h.src,aFT]
    repeat rw[aFP (zK (by simp only[aFR,aFV,aF8];omega))]
  refine(aGd (fun o=>uS o _) e1).trans ?_;unfold uS;rw[aFT]
  have e2:(if (!decide (x.2.2.1=([]:pP)))=true then
       (C6 x.2.2.1).bind fun Z=>
       if ((AR++Z).length:Int)<=9223372036854775807 then
        if (((AR++Z)++([10]:pP)).length:Int)<=9223372036854775807 then
         if ((iB x++((AR++Z)++([10]:pP))).length:Int)<=9223372036854775807 then
          some ((iB x++((AR++Z)++([10]:pP))))
         else none
        else none
       else none
      else some (iB x))=some (iC x):=by
    unfold iC HP;by_cases e:x.2.2.1=[]
    .rw[aFQ (by simp [e]),aFP e,append_nil]
    rw[aFP (by simp [e]),aFQ e,OI h.tgt,aFT]
    repeat rw[aFP (zK (by simp only[aFR,aFV,aF8];omega))]
  refine(aGd (fun o=>Option.bind o _) e2).trans ?_;rw[aFT]
  have e3:(if (!decide (x.2.2.2.2.2.1=(0:Int)))=true then
       if 0<=x.2.2.2.2.2.1/\x.2.2.2.2.2.1<(wR.length:Int) then
        if ((LN++qV .str wR x.2.2.2.2.2.1).length:Int)<=9223372036854775807 then
         if (((LN++qV .str wR x.2.2.2.2.2.1)++([10]:pP)).length:Int)<=9223372036854775807 then
          if ((iC x++((LN++qV .str wR x.2.2.2.2.2.1)++([10]:pP))).length:Int)<=9223372036854775807 then
           some ((iC x++((LN++qV .str wR x.2.2.2.2.2.1)++([10]:pP))))
          else none
         else none
        else none
       else none
      else some (iC x))=some (iD x):=by
    unfold iD R2;by_cases e:x.2.2.2.2.2.1=0
    .rw[aFQ (by simp [e]),aFP e,append_nil]
    rw[aFP (by simp [e]),aFQ e,aFP hst]
    repeat rw[aFP (zK (by simp only[aFR,aFV,aF8];omega))]
  refine(aGd (fun o=>Option.bind o _) e3).trans ?_;rw[aFT];by_cases e:x.2.2.2.2.1=[]
  . rw[aFQ (by simp [e]),Ir h.fld,aFT,aFP (zK (by rw[aFR];omega)),aFP (zK (by simp only[aFR,aFV,aF8];omega))]
    unfold BF iE JH;rw[aFP e,append_nil]
  have D:=a2U h.flg
  have j:iD x++((R1++y9 x.2.2.2.2.1 [32])++[10])=iE x:=by unfold iE JH;rw[aFQ e]
  rw[aFP (by have:=aGH.2 e;simp;omega),aFP ⟨pT,pT⟩,aFP (zK (by simp only[aFR,aFV,aF8];omega)),aFP (zK (by simp only[aFR,aFV,aF8];omega)),aFP (zK (by simp only[aFR,aFV,aF8];omega)),Ir h.fld,aFT,j,
    aFP (zK (by rw[aFR];omega)),aFP (zK (by simp only[aFR,aFV,aF8];omega))]
  rfl
end
def HR (c:C4):pP:=(((((LO++qt c.1)++[10])++HO c.2.1)++JG c.2.2.1))++HL
def a24 {c:C4}(j:bz c):H9 c=some (if AP c=true then(HR c,c.2.2.2.1.map BF,0) else([],[],1)):=by
 unfold H9;rw[aBN j.fitP,aFT];by_cases h:AP c=true
 .have hl:=j.len;have z:c.1.length<=6000:=by have:=j.tag;omega
  have F:=ES z;have E:=Iq j.com;have h3:=a2T j.fld;have k:=ca (f:=TX c) (fun i b=>(i,b)) (fun b=>b) (n:=c.2.2.2.1.length) (M:=1000000) (B:=1) (fun i=>[BF (c.2.2.2.1.getD i eD)]) (fun i hi=>by simp) [] pW (fun i b hi D=>by
   obtain⟨r0,r4⟩:=aBV (a1k h hi);unfold TX;dsimp only;rw[aFP (vI hi),aFP (tQ hi),a2p,aCa (j.ent _ (QX hi)) r0 r4,aFT,aFP pW,aFP (w4 pT)]) (fun b=>by
   unfold TX;dsimp only;rw[aFQ (xD _)])
  rw[h,aFQ (show¬(!true)=true from by decide),aFP rfl,OI z,aFT]
  repeat rw[aFP (zK (by simp only[aFR,aFV,aF8];omega))]
  rw[a2R j.com,aFT,aFP (zK (by simp only[aFR,aFV,aF8];omega)),Ir j.fld,aFT]
  repeat rw[aFP (zK (by simp only[aFR,aFV,aF8];omega))]
  rw[k,Ij (l:=c.2.2.2.1) (d:=eD) (fun x=>[BF x])];unfold uS;rw[aFT,nil_append,aBU];rfl
 simp only[aGZ] at h;rw[h,aFP (show (!false)=true from rfl),aFQ pU]
def HS (l:pP):Prop:= ∃u,l=u++[10]/\(10:UInt8)∉u
def BG (ls:pQ):Prop:= ∀l∈ls,HS l
def E6:pQ->Prop
 |[]=>True
 |l::r=>(HS l\/(r=[]/\l≠[]/\(10:UInt8)∉l))/\E6 r
def ET:Nat->pP->pQ
 |0,_=>[]
 |n+1,s=>if s=[] then[] else s.take (tN s 0)::ET n (s.drop (tN s 0))
def CY (s:pP):pQ:=ET s.length s
def aCb {s:pP}{a:Nat}(h:a<=s.length):tN s a=a+tN (s.drop a) 0:=by
 unfold tN;rw[aG4,aGp];split<;>omega
def UV {s:pP}(h:s≠[]):0<tN s 0/\tN s 0<=s.length:=UL (aGH.2 h)
def a26 {u t:pP}(h:(10:UInt8)∉u):tN ((u++[10])++t) 0=(u++[10]).length:=by
 have hl:((u++[10])++t)[u.length]? =some 10:=by simp
 rw[aA7 (i:=u.length) (aGS _) pV (fun j E _ z=>?_) (by
  have:=hl;rw[aFW pV] at this;exact aFU this)]
 .simp
 intro D;have e:((u++[10])++t)[j]? =some u[j]:=by
  rw[aF3,aF9 z,aFW z]
 rw[aFW E,D] at e;exact h (by rw[aFU e];exact aGG _)
def a27 {u:pP}(h:(10:UInt8)∉u):tN u 0=u.length:=
 aA8 fun j D _ z=>h (z▸aGG D)
def a28: ∀(n:Nat) (s:pP),s.length<=n->(ET n s).flatten=s
 |0,s,h=>by
  have:s=[]:=aGJ.1 pT;subst this;rfl
 |n+1,s,h=>by
  unfold ET;by_cases hs:s=[]
  .rw[aFP hs,hs];rfl
  obtain⟨z,j⟩:=UV hs;rw[aFQ hs,aGw,a28 n _ (by rw[aGp];omega),aG1]
def aCc (s:pP):(CY s).flatten=s:=a28 _ _ (aGc _)
def a29: ∀(n m:Nat) (s:pP),s.length<=n->n<=m->ET m s=ET n s
 |0,m,s,h,_=>by
  have:s=[]:=aGJ.1 pT;subst this;cases m<;>simp [ET]
 |n+1,m,s,h,hm=>by
  obtain⟨m',rfl⟩: ∃m',m=m'+1:=⟨m-1,pT⟩;unfold ET;by_cases hs:s=[]
  .rw[aFP hs,aFP hs]
  obtain⟨z,j⟩:=UV hs;rw[aFQ hs,aFQ hs,a29 n m' _ (by rw[aGp];omega) pT]
def It {s:pP}(hs:s≠[]):CY s=s.take (tN s 0)::CY (s.drop (tN s 0)):=by
 obtain⟨z,j⟩:=UV hs;have hl:=aGH.2 hs;unfold CY;obtain⟨k,h⟩: ∃k,s.length=k+1:=⟨s.length-1,pT⟩;rw[h,ET,aFQ hs,a29 (s.drop (tN s 0)).length k _ (aGc _) (by rw[aGp];omega)]
def aCd {u t:pP}(h:(10:UInt8)∉u):CY ((u++[10])++t)=(u++[10])::CY t:=by
 rw[It pV,a26 h,aHe,aHY]
def a3a: ∀(ls:pQ),E6 ls->CY ls.flatten=ls
 |[],_=>rfl
 |l::r,⟨z,j⟩=>by
  rw[aGw];rcases z with⟨u,rfl,h⟩ |⟨rfl,hl,h⟩
  .rw[aCd h,a3a r j]
  rw[flatten_nil,append_nil,It hl,a27 h,take_length,aGN];rfl
def a3b: ∀{s:pP},(10:UInt8)∈s->∃u t,s=u++10::t/\(10:UInt8)∉u
 |[],h=>by cases h
 |b::r,h=>by
  by_cases hb:b=10
  .exact⟨[],r,by rw[hb];rfl,by simp⟩
  have hr:(10:UInt8)∈r:=by
   rcases aF1.1 h with h|h
   .exact absurd h.symm hb
   exact h
  obtain⟨u,t,e,j⟩:=a3b hr;exact⟨b::u,t,by rw[e];rfl,by
   intro hm;rcases aF1.1 hm with h|h
   .exact hb h.symm
   exact j h⟩
def aCe {s:pP}(hs:s≠[]):HS (s.take (tN s 0))\/(s.drop (tN s 0)=[]/\(10:UInt8)∉s):=by
 by_cases h:(10:UInt8)∈s
 .left;obtain⟨u,t,rfl,j⟩:=a3b h;have e:u++10::t=(u++[10])++t:=by simp
  rw[e,a26 j,aHe];exact⟨u,rfl,j⟩
 right;rw[a27 h,aGN];exact⟨rfl,h⟩
def a3c: ∀(n:Nat) (s:pP),E6 (ET n s)
 |0,_=>trivial
 |n+1,s=>by
  unfold ET;by_cases hs:s=[]
  .rw[aFP hs];trivial
  rw[aFQ hs];refine⟨?_,a3c n _⟩;rcases aCe hs with h|⟨z,j⟩
  .exact .inl h
  refine .inr ⟨by rw[z];cases n<;>simp [ET],fun e=>?_,fun h=>j (mem_of_mem_take h)⟩
  obtain⟨g1,_⟩:=UV hs;have:=aGd List.length e;have hl:=aGH.2 hs;simp only[aGy,aF8] at this;omega
def aCf (s:pP):E6 (CY s):=a3c _ _
def R3: ∀{A B:pQ},E6 (A++B)->E6 A/\E6 B/\(B≠[]->BG A)
 |[],_,h=>⟨trivial,h,fun _ _ h=>by cases h⟩
 |l::A,B,⟨D,E⟩=>by
  obtain⟨g1,g2,g3⟩:=R3 E;refine⟨⟨?_,g1⟩,g2,fun z x j=>?_⟩
  .rcases D with h|⟨h,F⟩
   .exact .inl h
   exact .inr ⟨(append_eq_nil_iff.1 h).1,F⟩
  rcases aF1.1 j with rfl|j
  .rcases D with h|⟨h,_⟩
   .exact h
   exact absurd (append_eq_nil_iff.1 h).2 z
  exact g3 z x j
def UW: ∀{A B:pQ},BG A->E6 B->E6 (A++B)
 |[],_,_,h=>h
 |l::A,B,j,h=>⟨.inl (j l aGa),UW (fun x z=>j x (aF2 _ z)) h⟩
def LP {A B:pQ}(z:BG A) (j:BG B):BG (A++B):=fun x h=>(aGE.1 h).elim (z x) (j x)
def a3d {u:pP}:tV (u++[10])=u:=by
 unfold tV;rw[aFP pV];simp
def uA:pQ->St->Nat->(Nat×Int)⊕St
 |[],st,_=> .inr st
 |l::ls,st,a=>if (tM st (tV l) ((a+l.length:Nat):Int)).1=0 then uA ls (tM st (tV l) ((a+l.length:Nat):Int)).2 (a+l.length) else .inl (a,(tM st (tV l) ((a+l.length:Nat):Int)).1)
def LQ (l:pP) (ls:pQ) (st:St) (a:Nat):uA (l::ls) st a=if (tM st (tV l) ((a+l.length:Nat):Int)).1=0 then uA ls (tM st (tV l) ((a+l.length:Nat):Int)).2 (a+l.length) else .inl (a,(tM st (tV l) ((a+l.length:Nat):Int)).1):=rfl
def a3e {s:pP}: ∀(n a:Nat) (st:St),a<=s.length->s.length<n+a->CB s n st a=uA (CY (s.drop a)) st a
 |0,a,_,h,E=>by omega
 |n+1,a,st,h,E=>by
  unfold CB;by_cases D:a<s.length
  .have hne:s.drop a≠[]:=fun e=>by
    have:=aGd List.length e;simp only[aGp,aF8] at this;omega
   have e:=aCb h;obtain⟨G,F⟩:=UV hne;rw[aGp] at F;have j:((s.drop a).take (tN (s.drop a) 0)).length=tN (s.drop a) 0:=by rw[aGy,aGp];omega
   have z:G3 s a=(s.drop a).take (tN (s.drop a) 0):=by
    unfold G3;rw[show tN s a-a=tN (s.drop a) 0 by omega]
   rw[aFP D,It hne,uA,z,j,<-e,a3e n _ _ pT pT];rw[aHZ,show a+tN (s.drop a) 0=tN s a by omega]
  have:a=s.length:=by omega
  subst this;rw[aFQ D,aGN];rfl
def a3f (s:pP):CC s=match uA (CY s) tG 0 with
 | .inl q=> .inl q
 | .inr st=>if st.op=true\/st.ends=[] then .inl (s.length,3) else .inr st:=by
 unfold CC;rw[a3e _ 0 _ (aGS _) pT,aG4]
 first|done|rfl
def a3g: ∀(A B:pQ) (st:St) (a:Nat) {st':St},uA A st a= .inr st'->uA (A++B) st a=uA B st' (a+A.flatten.length)
 |[],B,st,a,st',h=>by
  cases h;simp
 |l::A,B,st,a,st',h=>by
  rw[cons_append,LQ];rw[LQ] at h;by_cases h0:(tM st (tV l) ((a+l.length:Nat):Int)).1=0
  .rw[aFP h0] at h|-;rw[a3g A B _ _ h,aGw,aFR,aGv]
  rw[aFQ h0] at h;cases h
def a3h: ∀(A B:pQ) (st:St) (a:Nat) {st':St},uA (A++B) st a= .inr st'->∃m,uA A st a= .inr m/\uA B m (a+A.flatten.length)= .inr st'
 |[],B,st,a,st',h=>⟨st,rfl,by simpa using h⟩
 |l::A,B,st,a,st',h=>by
  rw[cons_append,LQ] at h;rw[LQ];by_cases h0:(tM st (tV l) ((a+l.length:Nat):Int)).1=0
  .rw[aFP h0] at h|-;obtain⟨m,g1,g2⟩:=a3h A B _ _ h;exact⟨m,g1,by rw[aGw,aFR,<-aGv];exact g2⟩
  rw[aFQ h0] at h;cases h
def LR {l:pP}{st st':St}{a:Nat}(h:tM st (tV l) ((a+l.length:Nat):Int)=(0,st')):uA [l] st a= .inr st':=by
 rw[LQ,h,aFP rfl];rfl
def aCg {l:pP}{st st':St}{a:Nat}(h:uA [l] st a= .inr st'):tM st (tV l) ((a+l.length:Nat):Int)=(0,st'):=by
 rw[LQ] at h;by_cases h0:(tM st (tV l) ((a+l.length:Nat):Int)).1=0
 .rw[aFP h0] at h;have:=Sum.inr.inj h;rw[<-this,<-h0]
 rw[aFQ h0] at h;cases h
def Ws (s:pP) (l:List Wd):Prop:= ∀n,s.length<n->yF n s=some l
def aCh {s:pP}{l:List Wd}(h:Ws s l):HG s=some l:=h _ (Nat.lt_succ_self _)
def UX:Ws [] []:=fun n h=>by
 obtain⟨m,rfl⟩: ∃m,n=m+1:=⟨n-1,by simp at h;omega⟩;exact aAM m
def a3i {b:UInt8}(h:u7 b=true):tY b=false:=by
 have j:=(Ho b).1 h;cases z:tY b with
 |false=>rfl
 |true=>
      rcases(a1p b).1 z with e|e
      .exact absurd e j.1
      exact absurd e j.2.1
def a3j {b:UInt8}(h:tY b=true):u7 b=false:=by
 cases hp:u7 b with
 |false=>rfl
 |true=>rw[a3i hp] at h;cases h
def aCi {z:pP}(h:FZ z=true):z.dropWhile u7=z/\z.head?≠some 34:=by
 cases z with
 |nil=>exact⟨rfl,by simp⟩
 |cons b u=>
  have hb:tY b=true:=h;refine⟨dropWhile_cons_of_neg (by rw[a3j hb];simp),fun e=>?_⟩;have:b=34:=by simpa using e
  rw[this] at hb;exact absurd hb pU
def OJ {g w z:pP}{l:List Wd}(I: ∀b∈g,tY b=true) (hw:w≠[]) (hp: ∀b∈w,u7 b=true) (F:FZ z=true) (h:Ws z l):Ws (g++(w++z)) ((false,w,())::l):=by
 intro n G;obtain⟨m,rfl⟩: ∃m,n=m+1:=⟨n-1,pT⟩;obtain⟨D,j⟩:=aCi F;obtain⟨b,u,rfl⟩: ∃b u,w=b::u:=by
  cases w with
  |nil=>exact absurd rfl hw
  |cons b u=>exact⟨b,u,rfl⟩
 have hb:=hp b aGa;have e:(g++(b::u++z)).dropWhile tY=b::u++z:=by
  rw[dropWhile_append_of_pos I,cons_append,dropWhile_cons_of_neg (by rw[a3i hb];simp)]
 have e1:(b::u++z).dropWhile u7=z:=by rw[dropWhile_append_of_pos hp,D]
 have e2:(b::u++z).takeWhile u7=b::u:=by
  rw[takeWhile_append_of_pos hp];have:z.takeWhile u7=[]:=by
   cases z with
   |nil=>rfl
   |cons c v=>exact takeWhile_cons_of_neg (by rw[a3j F];simp)
  rw[this,append_nil]
 have E:BC (b::u++z)=some ((false,b::u,()),z):=by
  unfold BC;rw[aFQ (by
   intro h;have:b=34:=by simpa using h
   exact((Ho b).1 hb).2.2 this),e1,aFQ j,e2]
 unfold yF;rw[e,aFQ pV,E];show (yF m z).map _=_;rw[h m (by simp only[aFR,aFV] at G;omega)];rfl
def aCj (x z:pP):qt x++z=34::(xG 2 x++34::z):=by simp [qt]
def Iu {g x z:pP}{l:List Wd}(G: ∀b∈g,tY b=true) (F:sX x=true) (E:FZ z=true) (h:Ws z l):Ws (g++(qt x++z)) ((true,x,())::l):=by
 intro n D;obtain⟨m,rfl⟩: ∃m,n=m+1:=⟨n-1,pT⟩;rw[aCj] at D|-;have e:(g++(34::(xG 2 x++34::z))).dropWhile tY=34::(xG 2 x++34::z):=by
  rw[dropWhile_append_of_pos G,dropWhile_cons_of_neg pU]
 have K:uH 34 (xG 2 x++34::z)=some (xG 2 x).length:=aB0 (n:=2) rfl x z;have I:xE 2 (xG 2 x)=(x,0,0):=aBZ (n:=2) rfl x;have M:(34::(xG 2 x++34::z)).drop ((xG 2 x).length+2)=z:=by
  rw[show (34::(xG 2 x++34::z))=(34::xG 2 x++[34])++z by simp,drop_append_of_le_length pV];rw[drop_of_length_le pV];rfl
 have j:BC (34::(xG 2 x++34::z))=some ((true,x,()),z):=by
  unfold BC;rw[aFP (show (34::(xG 2 x++34::z)).head? =some 34 from rfl)];rw[show (34::(xG 2 x++34::z)).drop 1=xG 2 x++34::z from rfl,K];dsimp only;rw[aHe,I,M,aFP ⟨rfl,F,E⟩]
 unfold yF;rw[e,aFQ pV,j];show (yF m z).map _=_;rw[h m (by simp only[aFR,aFV] at D;omega)];rfl
def JI {g k u:pP}(j: ∀b∈g,tY b=true) (h:(match k with|[]=>false|b::_=> !tY b&&decide (b≠35))=true):BE (g++(k++u))=false:=by
 obtain⟨b,v,rfl⟩: ∃b v,k=b::v:=by
  cases k with
  |nil=>cases h
  |cons b v=>exact⟨b,v,rfl⟩
 simp only[aF0,aGj,aFY] at h;obtain⟨hb,z⟩:=h;rw[cons_append];unfold BE;rw[dropWhile_append_of_pos j,dropWhile_cons_of_neg (by rw[hb];simp)];simp [z]
def JJ {s:St}{line:pP}{l:List Wd}(n:Int) (hf:BE line=false) (h:Ws line l):tM s line n=rQ s n (zQ l):=by
 unfold tM;rw[aCh h];exact aFQ (by rw[hf];simp)
def cg {s:St}{line:pP}(n:Int) (hf:BE line=true):tM s line n=(0,s):=by
 unfold tM;exact aFP hf
def EU: ∀b∈([32,32]:pP),tY b=true:=by decide
def UY: ∀b∈([32]:pP),tY b=true:=by decide
def R4: ∀b∈([]:pP),tY b=true:=by simp
def UZ {g k x:pP}(z: ∀b∈g,tY b=true) (j:k≠[]) (hp: ∀b∈k,u7 b=true) (h:sX x=true):Ws (g++(k++([32]++(qt x++[])))) [(false,k,()),(true,x,())]:=
 OJ z j hp rfl (Iu UY h rfl UX)
def aCk {s:St}{x:pP}(n:Int) (h:sX x=true):tM s (cf++qt x) n=rQ s n (.com x):=by
 have e:cf++qt x=[32,32]++(w5++([32]++(qt x++[]))):=by simp [w5]
 rw[e,JJ n (JI EU pU) (UZ EU pU pU h)];rfl
def aCl {s:St}{x:pP}(n:Int) (h:sX x=true):tM s (AA++qt x) n=rQ s n (.src x):=by
 have e:AA++qt x=[32,32]++(uK++([32]++(qt x++[]))):=by simp [uK]
 rw[e,JJ n (JI EU pU) (UZ EU pU pU h)];rfl
def aCm {s:St}{x:pP}(n:Int) (h:sX x=true):tM s (AR++qt x) n=rQ s n (.tgt x):=by
 have e:AR++qt x=[32,32]++(uL++([32]++(qt x++[]))):=by simp [uL]
 rw[e,JJ n (JI EU pU) (UZ EU pU pU h)];rfl
abbrev EV:pP:=[101,110,116,114,121,32]
def aCn {s:St}{x:pP}(n:Int) (h:sX x=true):tM s (EV++qt x) n=rQ s n (.beg false x):=by
 have e:EV++qt x=[]++(HH++([32]++(qt x++[]))):=by simp [HH]
 rw[e,JJ n (JI R4 pU) (UZ R4 pU pU h)];rfl
def aCo {s:St}{x:pP}(n:Int) (h:sX x=true):tM s (LO++qt x) n=rQ s n (.beg true x):=by
 have e:LO++qt x=[]++(E5++([32]++(qt x++[]))):=by simp [E5]
 rw[e,JJ n (JI R4 pU) (UZ R4 pU pU h)];rfl
abbrev V0 (f:t6):pP:=((a2O++qt f.1)++[32])++qt f.2.1
def aCp {s:St}{f:t6}(n:Int) (h:v7 f.1=true) (j:sX f.2.1=true):tM s (V0 f) n=rQ s n (.fld f.1 f.2.1):=by
 have e:V0 f=[32,32]++(wT++([32]++(qt f.1++([32]++(qt f.2.1++[]))))):=by simp [wT,V0]
 rw[e,JJ n (JI EU pU) (OJ EU pU pU rfl (Iu UY (Hj h) rfl (Iu UY j rfl UX)))];have:zQ [(false,wT,()),(true,f.1,()),(true,f.2.1,())]= .fld f.1 f.2.1:=by
  show ((G1 [(true,f.1,()),(true,f.2.1,())]).map fun q=>wC.fld q.1 q.2).getD .bad=_;rw[show G1 [(true,f.1,()),(true,f.2.1,())]=some (f.1,f.2.1) from aFP ⟨⟨rfl,rfl⟩,h⟩];rfl
 rw[this]
def aCq {s:St}(n:Int):tM s [101,110,100] n=rQ s n .fin:=by
 have e:([101,110,100]:pP)=[]++(OE++[]):=by simp [OE]
 rw[e,JJ n (JI R4 pU) (OJ R4 pU pU rfl UX)];rfl
def aCr {s:St}{v:Int}(n:Int) (h0:0<=v) (h4:v<=4):tM s (LN++qV .str wR v) n=rQ s n (.sta v):=by
 have hw:qV .str wR v≠([]:pP)/\∀b∈qV .str wR v,u7 b=true:=by
  have:v=0\/v=1\/v=2\/v=3\/v=4:=by omega
  rcases this with rfl|rfl|rfl|rfl|rfl<;>decide
 have e:LN++qV .str wR v=[32,32]++(xR++([32]++(qV .str wR v++[]))):=by simp [xR]
 rw[e,JJ n (JI EU pU) (OJ EU pU pU rfl (OJ UY hw.1 hw.2 rfl UX))];have:zQ [(false,xR,()),(false,qV .str wR v,())]= .sta v:=by
  show ((G0 [(false,qV .str wR v,())]).map wC.sta).getD .bad=_;have hs:G0 [(false,qV .str wR v,())]=some (A8 (qV .str wR v)):=aFP ⟨rfl,by rw[a2K h0 h4];exact h0⟩;rw[hs,a2K h0 h4];rfl
 rw[this]
def aCs:((List.range 256).all fun b=>yZ (b:Int)||(u7 b.toUInt8&&decide (b≠10)))=true:=by kernel_rfl
def a3k {b:UInt8}(h:yZ b.toNat=false):u7 b=true/\b≠10:=by
 have:=aGK.1 aCs b.toNat (by simpa using UInt8.toNat_lt b);rw[h] at this;simp only[Bool.false_or,aF0,aFY] at this;refine⟨?_,fun e=>this.2 (by rw[e];rfl)⟩;have e:b.toNat.toUInt8=b:=by simp
 rw[e] at this;exact this.1
def a3l {x:pP}(h:v7 x=true):x≠[]/\∀b∈x,u7 b=true/\b≠10:=by
 cases x with
 |nil=>cases h
 |cons b t=>
  unfold v7 at h;simp only[aF0,aGj,aGA] at h;refine⟨by simp,fun c j=>?_⟩;rcases aF1.1 j with rfl|j
  .apply a3k;have z:=h.1.2;unfold A7 at z;unfold yZ;rw[z];rfl
  exact a3k (by simpa using h.2 c j)
def E7 (l:pQ):pP:=l.flatMap fun y=>[32]++y
def a3m (l:pQ):FZ (E7 l)=true:=by cases l<;>rfl
def a3n: ∀(l:pQ),(∀x∈l,v7 x=true)->Ws (E7 l) (l.map fun y=>(false,y,()))
 |[],_=>UX
 |x::r,h=>by
  have j:=a3l (h x aGa);have e:E7 (x::r)=[32]++(x++E7 r):=by simp [E7]
  rw[e,aGU];exact OJ UY j.1 (fun b hb=>(j.2 b hb).1) (a3m r) (a3n r fun y z=>h y (aF2 _ z))
def aCt {s:St}{l:pQ}(n:Int) (hne:l≠[]) (h: ∀x∈l,v7 x=true):tM s (R1++y9 l [32]) n=rQ s n (.flg l):=by
 have e:R1++y9 l [32]=[32,32]++(wZ++E7 l):=by
  cases l with
  |nil=>exact absurd rfl hne
  |cons x r=>rw[Is];simp [wZ,E7]
 rw[e,JJ n (JI EU pU) (OJ EU pU pU (a3m l) (a3n l h))];have e2:tD (l.map fun y=>((false,y,()):Wd))=l:=by
  unfold tD;rw[map_map]
  conv=>rhs;rw[<-map_id l]
  congr 1
 have:zQ ((false,wZ,())::l.map fun y=>(false,y,()))= .flg l:=by
  show (if (l.map fun y=>((false,y,()):Wd))=[]\/((l.map fun y=>((false,y,()):Wd)).any G2)=true then wC.bad else .flg (tD (l.map fun y=>((false,y,()):Wd))))=_;rw[aFQ,e2];rintro(j|j)
  .exact hne (map_eq_nil_iff.1 j)
  rw[any_map,any_eq_true] at j;obtain⟨x,D,z⟩:=j;simp only[Function.comp,G2,Bool.false_or,h x D] at z;cases z
 rw[this]
def aCu:((List.range 256).all fun b=>[true,false].all fun f=> !((z8 2 b f).contains 10))=true:=by kernel_rfl
def a3o: ∀(s:pP) (f:Bool),(10:UInt8)∉CD 2 f s
 |[],_=>by simp [CD]
 |b::t,f=>by
  unfold CD;intro h;rcases aGE.1 h with h|h
  .have hf:f∈[true,false]:=by cases f<;>simp
   have:=aGK.1 (aGK.1 aCu b.toNat (by simpa using UInt8.toNat_lt b)) f hf;simp at this;exact this h
  exact a3o t false h
def a3p (x:pP):(10:UInt8)∉qt x:=by
 unfold qt;rw[Il];intro h;simp only[aGE,aF7] at h;rcases h with(h|h) |h
 .exact absurd h pU
 .exact a3o x true h
 exact absurd h pU
def V1 {p x:pP}(hp:(10:UInt8)∉p):(10:UInt8)∉p++qt x:=fun h=>(aGE.1 h).elim hp (a3p x)
structure aCv (x:tI):Prop where
 id0:x.1≠[]
 idl:x.1.length<=200
 idt:sX x.1=true
 sc:sX x.2.1=true
 tg:sX x.2.2.1=true
 cm:wS x.2.2.2.1=true
 fg:CV x.2.2.2.2.1=true
 sv0:0<=x.2.2.2.2.2.1
 sv4:x.2.2.2.2.2.1<=4
 fd:wB x.2.2.2.2.2.2.1=true
def Iv {x:tI}(h:yE x=true):aCv x:=by
 unfold yE at h;simp only[aF0,aFY,aGj,aGu] at h;obtain⟨⟨⟨⟨⟨⟨⟨⟨I,K⟩,h3⟩,h4⟩,G⟩,F⟩,E⟩,D,z⟩,j⟩:=h;exact⟨I,pT,h3,h4,G,F,E,D,z,j⟩
def xU (p s:pP):pQ:=if s=[] then[] else[(p++qt s)++[10]]
def EW (n:Int):pQ:=if n=0 then[] else[(LN++qV .str wR n)++[10]]
def G6 (l:pQ):pQ:=if l=[] then[] else[(R1++y9 l [32])++[10]]
def EX (x:tI):pQ:=[10]::(((EV++qt x.1)++[10])::(x.2.2.2.1.map xH++(xU AA x.2.1++(xU AR x.2.2.1++(EW x.2.2.2.2.2.1++(G6 x.2.2.2.2.1++(x.2.2.2.2.2.2.1.map AB++[HL])))))))
def LS (c:C4):pQ:=((LO++qt c.1)++[10])::(c.2.1.map xH++(c.2.2.1.map AB++[HL]))
def aCw (p s:pP):(xU p s).flatten=HP p s:=by
 unfold xU HP;split<;>simp
def aCx (n:Int):(EW n).flatten=R2 n:=by
 unfold EW R2;split<;>simp
def aCy (l:pQ):(G6 l).flatten=JH l:=by
 unfold G6 JH;split<;>simp
def aCz (x:tI):(EX x).flatten=BF x:=by
 unfold EX BF iE iD iC iB iA;simp only[aGw,flatten_append,aCw,aCx,aCy,flatten_nil,append_nil,<-flatMap_def];unfold HO JG;simp
def a3q (c:C4):(LS c).flatten=HR c:=by
 unfold LS HR;simp only[aGw,flatten_append,flatten_nil,append_nil,<-flatMap_def];unfold HO JG;simp
def LT {u:pP}(h:(10:UInt8)∉u):HS (u++[10]):=⟨u,rfl,h⟩
def a3r (x:pP):HS (xH x):=LT (V1 pU)
def a3s (f:t6):HS (AB f):=LT (u:=V0 f) fun h=>by
 rcases aGE.1 h with h|h
 .rcases aGE.1 h with h|h
  .exact V1 pU h
  exact absurd h pU
 exact a3p _ h
def a3t:HS HL:=⟨[101,110,100],rfl,pU⟩
def a3u {p s:pP}(hp:(10:UInt8)∉p):BG (xU p s):=fun l hl=>by
 unfold xU at hl;split at hl
 .cases hl
 rw[aF7.1 hl];exact LT (V1 hp)
def ch {α:Type}{f:α->pP}(h: ∀x,HS (f x)) (l:List α):BG (l.map f):=fun x j=>by
 obtain⟨y,_,rfl⟩:=mem_map.1 j;exact h y
def a3v {l:pP}(h:HS l):BG [l]:=fun x j=>by rw[aF7.1 j];exact h
def aCA {n:Int}(h0:0<=n) (h4:n<=4):BG (EW n):=fun l hl=>by
 unfold EW at hl;split at hl
 .cases hl
 rw[aF7.1 hl];refine LT ?_;have:n=0\/n=1\/n=2\/n=3\/n=4:=by omega
 rcases this with rfl|rfl|rfl|rfl|rfl<;>decide
def aCB (l:pQ) (h: ∀x∈l,v7 x=true):(10:UInt8)∉E7 l:=fun hm=>by
 unfold E7 at hm;obtain⟨y,z,D⟩:=mem_flatMap.1 hm;rcases aGE.1 D with j|j
 .exact absurd j pU
 exact((a3l (h y z)).2 _ j).2 rfl
def a3w {x:pP}{r:pQ}:[32]++y9 (x::r) [32]=E7 (x::r):=by
 rw[Is];simp [E7]
def aCC {l:pQ}(h: ∀x∈l,v7 x=true):BG (G6 l):=fun q hq=>by
 unfold G6 at hq;split at hq
 .cases hq
 rename_i hne;rw[aF7.1 hq];refine LT fun hm=>?_;cases l with
 |nil=>exact hne rfl
 |cons x r=>
  have e:R1++y9 (x::r) [32]=[32,32,102,108,97,103,115]++E7 (x::r):=by rw[<-a3w];simp
  rw[e] at hm;rcases aGE.1 hm with j|j
  .exact absurd j pU
  exact aCB _ h j
def Iw {l:pP}{r:pQ}(h:HS l) (hr:BG r):BG (l::r):=fun x j=>(aF1.1 j).elim (fun e=>e▸h) (hr x)
def aCD {x:tI}(h:yE x=true):BG (EX x):=by
 have p:=Iv h;exact Iw (LT (u:=[]) pV) (Iw (LT (V1 pU)) (LP (ch a3r _) (LP (a3u pU) (LP (a3u pU)
  (LP (aCA p.sv0 p.sv4) (LP (aCC (az p.fg).2.1) (LP (ch a3s _) (a3v a3t))))))))
def aCE (c:C4):BG (LS c):=Iw (LT (V1 pU)) (LP (ch a3r _) (LP (ch a3s _) (a3v a3t)))
def ci {s s':St}{u:pP}{a:Nat}(h: ∀n,tM s u n=(0,s')):uA [u++[10]] s a= .inr s':=LR (by rw[a3d];exact h _)
def V2 {s s':St}{u:pP}{ls:pQ}{a:Nat}(h: ∀n,tM s u n=(0,s')):uA ((u++[10])::ls) s a=uA ls s' (a+(u++[10]).length):=by
 rw[LQ,a3d,h,aFP rfl]
def Ix: ∀(l:pQ) (s:St) (a:Nat),s.op=true->s.cm.length+l.length<=20->(∀x∈l,sX x=true)->
  ∃la na,uA (l.map xH) s a= .inr {s with cm:=s.cm++l,last:=la,name:=na}
 |[],s,a,_,_,_=>⟨s.last,s.name,by rw[append_nil];rfl⟩
 |x::r,s,a,ho,hl,h=>by
  rw[aFV] at hl;obtain⟨la,na,e⟩:=Ix r {s with cm:=s.cm++[x],last:=w5,name:=[]} (a+(xH x).length) ho pW (fun y j=>h y (aF2 _ j))
  refine⟨la,na,?_⟩;rw[aGU];refine(V2 (u:=cf++qt x) (s':={s with cm:=s.cm++[x],last:=w5,name:=[]}) fun n=>?_).trans (e.trans ?_)
  .rw[aCk n (h x aGa),rQ,aFQ (by rw[ho];simp),aFQ pT]
  simp
def Iy: ∀(l:List t6) (s:St) (a:Nat),s.op=true->s.fd.length+l.length<=20->(∀x∈l,v7 x.1=true/\sX x.2.1=true)->(s.fd++l).Pairwise (fun a b=>a.1<b.1)->
  ∃la na,uA (l.map AB) s a= .inr {s with fd:=s.fd++l,last:=la,name:=na}
 |[],s,a,_,_,_,_=>⟨s.last,s.name,by rw[append_nil];rfl⟩
 |x::r,s,a,ho,hl,D,hp=>by
  rw[aFV] at hl;have z: ∀y∈s.fd,y.1<x.1:=fun y j=>(aHL.1 hp).2.2 y j x aGa;have G:(x.1,(x.2.1,()))=x:=rfl;obtain⟨la,na,e⟩:=Iy r {s with fd:=s.fd++[x],last:=wT,name:=x.1} (a+(AB x).length) ho pW (fun y j=>D y (aF2 _ j)) (by simpa using hp)
  refine⟨la,na,?_⟩;rw[aGU];refine(V2 (u:=V0 x) (s':={s with fd:=s.fd++[x],last:=wT,name:=x.1}) fun n=>?_).trans (e.trans ?_)
  .have E: ¬(s.fd.any fun y=>decide (y.1=x.1))=true:=fun h=>by
    obtain⟨y,j,F⟩:=any_eq_true.1 h;have:=z y j;rw[aGt F] at this;exact List.lt_irrefl _ this
   rw[aCp n (D x aGa).1 (D x aGa).2,rQ,aFQ (by rw[ho];simp),aFQ E,aFQ pT,aB1 z]
  simp
def aCF {x:pP}{s:St}{a:Nat}(ho:s.op=true) (z:s.ends≠[]) (hb:s.bs=false) (h0:s.sc=[]) (h:sX x=true): ∃b la na,uA (xU AA x) s a= .inr {s with sc:=x,bs:=b,last:=la,name:=na}:=by
 unfold xU;split
 .rename_i j;exact⟨s.bs,s.last,s.name,by rw[j,<-h0];rfl⟩
 exact⟨true,uK,[],ci fun n=>by rw[aCl n h,rQ,aFQ (by simp [ho,z]),aFQ (by simp [hb])]⟩
def aCG {x:pP}{s:St}{a:Nat}(ho:s.op=true) (z:s.ends≠[]) (hb:s.bt=false) (h0:s.tg=[]) (h:sX x=true): ∃b la na,uA (xU AR x) s a= .inr {s with tg:=x,bt:=b,last:=la,name:=na}:=by
 unfold xU;split
 .rename_i j;exact⟨s.bt,s.last,s.name,by rw[j,<-h0];rfl⟩
 exact⟨true,uL,[],ci fun n=>by rw[aCm n h,rQ,aFQ (by simp [ho,z]),aFQ (by simp [hb])]⟩
def aCH {v:Int}{s:St}{a:Nat}(ho:s.op=true) (j:s.ends≠[]) (hb:s.bh=false) (h0:s.sv=0) (z:0<=v) (h4:v<=4): ∃b la na,uA (EW v) s a= .inr {s with sv:=v,bh:=b,last:=la,name:=na}:=by
 unfold EW;split
 .rename_i h;exact⟨s.bh,s.last,s.name,by rw[h,<-h0];rfl⟩
 exact⟨true,[],[],ci fun n=>by rw[aCr n z h4,rQ,aFQ (by simp [ho,j]),aFQ (by simp [hb])]⟩
def aCI {l:pQ}{s:St}{a:Nat}(ho:s.op=true) (j:s.ends≠[]) (hb:s.bf=false) (h0:s.fg=[]) (hf:CV l=true): ∃b la na,uA (G6 l) s a= .inr {s with fg:=l,bf:=b,last:=la,name:=na}:=by
 unfold G6;split
 .rename_i h;exact⟨s.bf,s.last,s.name,by subst h;rw[show ({s with fg:=[],bf:=s.bf,last:=s.last,name:=s.name}:St)=s from by cases s;cases h0;rfl];rfl⟩
 rename_i h;obtain⟨f1,f2,f3⟩:=az hf;have z:CA l=false:=(aAQ l).2 (a1x f3);exact⟨true,[],[],ci fun n=>by rw[aCt n h f2,rQ,aFQ (by simp [ho,j]),aFQ (by simp [hb,z]),aFQ pT,aAO f3]⟩
def a3x {s:St}{a:Nat}(ho:s.op=true):uA [HL] s a= .inr (tS (if s.ends=[] then(s.c.1,(s.cm,(s.fd,s.c.2.2.2))) else(s.c.1,(s.c.2.1,(s.c.2.2.1,(s.c.2.2.2.1++[s.x],()))))) (s.ends++[((a+4:Nat):Int)])):=
 LR (by rw[show tV HL=[101,110,100] from rfl,aCq,rQ,aFQ (by rw[ho];simp)];rfl)
def aCJ {s:St}{a:Nat}(ho:s.op=true) (h:s.ends≠[]):uA [HL] s a= .inr (tS (s.c.1,(s.c.2.1,(s.c.2.2.1,(s.c.2.2.2.1++[s.x],())))) (s.ends++[((a+4:Nat):Int)])):=by
 rw[a3x ho,aFQ h]
def AS {A B:pQ}{s m:St}{r:(Nat×Int)⊕St}{a:Nat}(h:uA A s a= .inr m) (j:uA B m (a+A.flatten.length)=r):uA (A++B) s a=r:=(a3g A B s a h).trans j
def cj (ls:pQ) (x:tI):Prop:= ∀(c:C4) (ends:pZ) (a:Nat),ends≠[]->(∀y∈c.2.2.2.1,y.1≠x.1)->c.2.2.2.1.length<1000->
 uA ls (tS c ends) a= .inr (tS (c.1,(c.2.1,(c.2.2.1,(c.2.2.2.1++[x],())))) (ends++[((a+ls.flatten.length:Nat):Int)]))
def JK (ls:pQ) (t:pP) (cm:pQ) (fd:List t6):Prop:=uA ls tG 0= .inr (tS (t,(cm,(fd,([],())))) [((ls.flatten.length:Nat):Int)])
def LU (ls:pQ):Prop:= ∀(c:C4) (ends:pZ) (a:Nat),uA ls (tS c ends) a= .inr (tS c ends)
def aCK {c:C4}(z:yC c.1=true) (D:wS c.2.1=true) (hf:wB c.2.2.1=true):JK (LS c) c.1 c.2.1 c.2.2.1:=by
 obtain⟨c1,c2⟩:=HE D;obtain⟨f1,f2,f3⟩:=HF hf;unfold JK;have e0:uA (LS c) tG 0=uA (c.2.1.map xH++(c.2.2.1.map AB++[HL])) (yG tG (c.1,tG.c.2) c.1) (0+((LO++qt c.1)++[10]).length):=V2 fun n=>by
  rw[aCo n (a2L z),rQ,aFQ (by simp [tG,tS]),aFP z]
 obtain⟨la,na,e1⟩:=Ix c.2.1 (yG tG (c.1,tG.c.2) c.1) (0+((LO++qt c.1)++[10]).length) rfl (by show 0+_<=_;omega) c2;obtain⟨la',na',e2⟩:=Iy c.2.2.1 {(yG tG (c.1,tG.c.2) c.1) with cm:=[]++c.2.1,last:=la,name:=na} (0+((LO++qt c.1)++[10]).length+(c.2.1.map xH).flatten.length) rfl (by show 0+_<=_;omega) (fun x j=>⟨(f2 x j).1,(f2 x j).2.2⟩) (by simpa[yG] using f3)
 rw[e0];refine AS e1 (AS e2 ((a3x rfl).trans ?_));have h:(LS c).flatten.length=0+((LO++qt c.1)++[10]).length+(c.2.1.map xH).flatten.length+(c.2.2.1.map AB).flatten.length+4:=by
  unfold LS;simp only[aGw,flatten_append,aFR,flatten_nil,aF8,aFV];omega
 rw[h];simp [yG,tG,tS]
def aCL {x:tI}(h:yE x=true):cj (EX x) x:=by
 intro c ends a j E M;have p:=Iv h;obtain⟨c1,c2⟩:=HE p.cm;obtain⟨f1,f2,f3⟩:=HF p.fd;have D: ¬(c.2.2.2.1.any fun y=>decide (y.1=x.1))=true:=fun h=>by
  obtain⟨y,G,K⟩:=any_eq_true.1 h;exact E y G (aGt K)
 have e0:uA (EX x) (tS c ends) a=uA (x.2.2.2.1.map xH++(xU AA x.2.1++(xU AR x.2.2.1++(EW x.2.2.2.2.2.1++(G6 x.2.2.2.2.1++(x.2.2.2.2.2.2.1.map AB++[HL])))))) (yG (tS c ends) c x.1) (a+1+((EV++qt x.1)++[10]).length):=by
  refine(V2 (u:=[]) (s':=tS c ends) fun n=>cg n rfl).trans ?_;exact V2 fun n=>by
   rw[aCn n p.idt,rQ,aFQ (by simp [tS,j]),aFQ (by rintro(h|h);exact p.id0 h;have:=p.idl;omega),aFQ (show¬((tS c ends).c.2.2.2.1.any fun y=>decide (y.1=x.1))=true from D),aFQ (show¬1000<=(tS c ends).c.2.2.2.1.length from by show¬1000<=c.2.2.2.1.length;omega)]
   rfl
 rw[e0];obtain⟨l1,n1,e1⟩:=Ix x.2.2.2.1 (yG (tS c ends) c x.1) (a+1+((EV++qt x.1)++[10]).length) rfl (by show 0+_<=_;omega) c2;refine AS e1 ?_;obtain⟨b2,l2,n2,e2⟩:=aCF (x:=x.2.1) (s:={yG (tS c ends) c x.1 with cm:=[]++x.2.2.2.1,last:=l1,name:=n1}) (a:=a+1+((EV++qt x.1)++[10]).length+(x.2.2.2.1.map xH).flatten.length) rfl j rfl rfl p.sc
 refine AS e2 ?_;obtain⟨b3,l3,n3,e3⟩:=aCG (x:=x.2.2.1) (s:={yG (tS c ends) c x.1 with cm:=[]++x.2.2.2.1,sc:=x.2.1,bs:=b2,last:=l2,name:=n2}) (a:=a+1+((EV++qt x.1)++[10]).length+(x.2.2.2.1.map xH).flatten.length+(xU AA x.2.1).flatten.length) rfl j rfl rfl p.tg
 refine AS e3 ?_;obtain⟨b4,l4,n4,e4⟩:=aCH (v:=x.2.2.2.2.2.1) (s:={yG (tS c ends) c x.1 with cm:=[]++x.2.2.2.1,sc:=x.2.1,bs:=b2,tg:=x.2.2.1,bt:=b3,last:=l3,name:=n3}) (a:=a+1+((EV++qt x.1)++[10]).length+(x.2.2.2.1.map xH).flatten.length+(xU AA x.2.1).flatten.length+(xU AR x.2.2.1).flatten.length) rfl j rfl rfl p.sv0 p.sv4
 refine AS e4 ?_;obtain⟨b5,l5,n5,e5⟩:=aCI (l:=x.2.2.2.2.1) (s:={yG (tS c ends) c x.1 with cm:=[]++x.2.2.2.1,sc:=x.2.1,bs:=b2,tg:=x.2.2.1,bt:=b3,sv:=x.2.2.2.2.2.1,bh:=b4,last:=l4,name:=n4}) (a:=a+1+((EV++qt x.1)++[10]).length+(x.2.2.2.1.map xH).flatten.length+(xU AA x.2.1).flatten.length+(xU AR x.2.2.1).flatten.length+(EW x.2.2.2.2.2.1).flatten.length) rfl j rfl rfl p.fg
 refine AS e5 ?_;obtain⟨l6,n6,e6⟩:=Iy x.2.2.2.2.2.2.1 {yG (tS c ends) c x.1 with cm:=[]++x.2.2.2.1,sc:=x.2.1,bs:=b2,tg:=x.2.2.1,bt:=b3,sv:=x.2.2.2.2.2.1,bh:=b4,fg:=x.2.2.2.2.1,bf:=b5,last:=l5,name:=n5} (a+1+((EV++qt x.1)++[10]).length+(x.2.2.2.1.map xH).flatten.length+(xU AA x.2.1).flatten.length+(xU AR x.2.2.1).flatten.length+(EW x.2.2.2.2.2.1).flatten.length+(G6 x.2.2.2.2.1).flatten.length) rfl (by show 0+_<=_;omega) (fun x F=>⟨(f2 x F).1,(f2 x F).2.2⟩) (by simpa[yG] using f3)
 refine AS e6 ((aCJ rfl j).trans ?_);have z:(EX x).flatten.length=1+((EV++qt x.1)++[10]).length+(x.2.2.2.1.map xH).flatten.length+(xU AA x.2.1).flatten.length+(xU AR x.2.2.1).flatten.length+(EW x.2.2.2.2.2.1).flatten.length+(G6 x.2.2.2.2.1).flatten.length+(x.2.2.2.2.2.2.1.map AB).flatten.length+4:=by
  unfold EX;simp only[aGw,flatten_append,aFR,flatten_nil,aF8,aFV];omega
 have I:((a+(EX x).flatten.length:Nat):Int)=((a+1+((EV++qt x.1)++[10]).length+(x.2.2.2.1.map xH).flatten.length+(xU AA x.2.1).flatten.length+(xU AR x.2.2.1).flatten.length+(EW x.2.2.2.2.2.1).flatten.length+(G6 x.2.2.2.2.1).flatten.length+(x.2.2.2.2.2.2.1.map AB).flatten.length+4:Nat):Int):=by rw[z];congr 1;omega
 rw[I];rfl
def aCM (x:tI):EX x≠[]:=by unfold EX;simp
def Iz:LU []:=fun _ _ _=>rfl
abbrev nI (l:qC):pZ:=l.map fun n:Nat=>(n:Int)
def CE:List pQ->List tI->Prop
 |[],[]=>True
 |g::G,x::es=>(g≠[]/\cj g x)/\CE G es
 |_,_=>False
def a3y: ∀{G:List pQ}{es:List tI},CE G es->G.length=es.length
 |[],[],_=>rfl
 |_::G,_::es,h=>by rw[aFV,aFV,a3y h.2]
 |[],_::_,h=>h.elim
 |_::_,[],h=>h.elim
def a3z: ∀{G:List pQ}{es:List tI}{g:pQ}{x:tI},CE G es->g≠[]->cj g x->CE (G++[g]) (es++[x])
 |[],[],_,_,_,z,j=>⟨⟨z,j⟩,trivial⟩
 |_::G,_::es,_,_,h,z,j=>⟨h.1,a3z h.2 z j⟩
 |[],_::_,_,_,h,_,_=>h.elim
 |_::_,[],_,_,h,_,_=>h.elim
def a3A: ∀{G:List pQ}{es:List tI}{g:pQ}{x:tI}(k:Nat),CE G es->g≠[]->cj g x->CE (G.set k g) (es.set k x)
 |[],[],_,_,_,_,_,_=>trivial
 |_::G,_::es,_,_,0,h,z,j=>⟨⟨z,j⟩,h.2⟩
 |_::G,_::es,_,_,k+1,h,z,j=>⟨h.1,a3A k h.2 z j⟩
 |[],_::_,_,_,_,h,_,_=>h.elim
 |_::_,[],_,_,_,h,_,_=>h.elim
def a3B: ∀{G:List pQ}{es:List tI}{c:C4}{ends:pZ}{a:Nat},CE G es->ends≠[]->(c.2.2.2.1++es).Pairwise (fun a b=>a.1≠b.1)->(c.2.2.2.1++es).length<=1000->
  uA G.flatten (tS c ends) a= .inr (tS (c.1,(c.2.1,(c.2.2.1,(c.2.2.2.1++es,())))) (ends++nI (xT a (G.map List.flatten))))
 |[],[],c,ends,a,_,_,_,_=>by
  show Sum.inr (tS c ends)=_;rw[append_nil,map_nil];show _=Sum.inr (tS _ (ends++[]));rw[append_nil]
 |g::G,x::es,c,ends,a,h,z,hp,hl=>by
  have E:c.2.2.2.1.length+(es.length+1)<=1000:=by simpa using hl
  have D:=h.1.2 c ends a z (fun y j=>(aHL.1 hp).2.2 y j x aGa) pT;rw[aGw];refine AS D ?_;rw[a3B h.2 pV (by simpa using hp) pW];simp [xT,nI]
 |[],_::_,_,_,_,h,_,_,_=>h.elim
 |_::_,[],_,_,_,h,_,_,_=>h.elim
abbrev E8 (H:pQ) (G:List pQ):pZ:=nI (H.flatten.length::xT H.flatten.length (G.map List.flatten))
def aCN {H T:pQ}{G:List pQ}{t:pP}{cm:pQ}{fd:List t6}{es:List tI}(hH:JK H t cm fd) (h:CE G es) (hT:LU T) (hp:es.Pairwise (fun a b=>a.1≠b.1)) (hl:es.length<=1000):
  uA (H++(G.flatten++T)) tG 0= .inr (tS (t,(cm,(fd,(es,())))) (E8 H G)):=by
 refine AS hH (AS (a3B h pV (by simpa using hp) (by simpa using hl)) ((hT _ _ _).trans ?_));simp [E8,nI]
def aCO {H T:pQ}{G:List pQ}{t:pP}{cm:pQ}{fd:List t6}{es:List tI}(hH:JK H t cm fd) (j:CE G es) (hT:LU T) (hp:es.Pairwise (fun a b=>a.1≠b.1)) (hl:es.length<=1000)
  (h:E6 (H++(G.flatten++T))):CC (H++(G.flatten++T)).flatten= .inr (tS (t,(cm,(fd,(es,())))) (E8 H G)):=by
 rw[a3f,a3a _ h,aCN hH j hT hp hl];exact aFQ (by simp [tS])
def uV (s:St) (c:C4) (e:pZ):St:={s with c:=c,ends:=e}
def aCP (s:St) (c:C4) (e:pZ) (z:pP):x6 (uV s c e) z=uV (x6 s z) c e:=by
 show x6 {s with c:=c,ends:=e} z=_
 unfold x6;dsimp only
 repeat' (first|rfl|split)
def aCQ {s:St}{k:wC}(c:C4) {e:pZ}(n m:Int) (hs:s.ends≠[]) (j:e≠[]) (D: ∀z t,k≠.beg z t) (hf:k≠.fin):rQ (uV s c e) m k=((rQ s n k).1,uV (rQ s n k).2 c e):=by
 cases k with
 |bad=>rfl
 |fin=>exact absurd rfl hf
 |beg z t=>exact absurd rfl (D z t)
 |cont t=>
  have E1:rQ (uV s c e) m (.cont t)=if s.op=false\/s.last=[] then(3,uV s c e) else if sX (AQ s++t)=true then(0,x6 (uV s c e) (AQ s++t)) else(3,uV s c e):=rfl;have E2:rQ s n (.cont t)=if s.op=false\/s.last=[] then(3,s) else if sX (AQ s++t)=true then(0,x6 s (AQ s++t)) else(3,s):=rfl;rw[E1,E2,aCP];split
  .rfl
  .split<;>rfl
 |com t=>
  have E1:rQ (uV s c e) m (.com t)=if s.op=false then(3,uV s c e) else if 20<=s.cm.length then(6,uV s c e) else(0,uV {s with cm:=s.cm++[t],last:=w5,name:=[]} c e):=rfl
  have E2:rQ s n (.com t)=if s.op=false then(3,s) else if 20<=s.cm.length then(6,s) else(0,{s with cm:=s.cm++[t],last:=w5,name:=[]}):=rfl
  rw[E1,E2];split
  .rfl
  .split<;>rfl
 |fld a v=>
  have E1:rQ (uV s c e) m (.fld a v)=if s.op=false then(3,uV s c e) else if (s.fd.any fun y=>decide (y.1=a))=true then(9,uV s c e) else if 20<=s.fd.length then(6,uV s c e) else(0,uV {s with fd:=yD s.fd a v,last:=wT,name:=a} c e):=rfl
  have E2:rQ s n (.fld a v)=if s.op=false then(3,s) else if (s.fd.any fun y=>decide (y.1=a))=true then(9,s) else if 20<=s.fd.length then(6,s) else(0,{s with fd:=yD s.fd a v,last:=wT,name:=a}):=rfl
  rw[E1,E2];split
  .rfl
  .split
   .rfl
   .split<;>rfl
 |src t=>
  have E1:rQ (uV s c e) m (.src t)=if s.op=false\/e=[] then(3,uV s c e) else if s.bs=true then(9,uV s c e) else(0,uV {s with sc:=t,bs:=true,last:=uK,name:=[]} c e):=rfl
  have E2:rQ s n (.src t)=if s.op=false\/s.ends=[] then(3,s) else if s.bs=true then(9,s) else(0,{s with sc:=t,bs:=true,last:=uK,name:=[]}):=rfl
  rw[E1,E2];by_cases ho:s.op=false
  .rw[aFP (.inl ho),aFP (.inl ho)]
  .rw[aFQ (show¬(s.op=false\/e=[]) from fun h=>h.elim ho j),aFQ (show¬(s.op=false\/s.ends=[]) from fun h=>h.elim ho hs)];split<;>rfl
 |tgt t=>
  have E1:rQ (uV s c e) m (.tgt t)=if s.op=false\/e=[] then(3,uV s c e) else if s.bt=true then(9,uV s c e) else(0,uV {s with tg:=t,bt:=true,last:=uL,name:=[]} c e):=rfl
  have E2:rQ s n (.tgt t)=if s.op=false\/s.ends=[] then(3,s) else if s.bt=true then(9,s) else(0,{s with tg:=t,bt:=true,last:=uL,name:=[]}):=rfl
  rw[E1,E2];by_cases ho:s.op=false
  .rw[aFP (.inl ho),aFP (.inl ho)]
  .rw[aFQ (show¬(s.op=false\/e=[]) from fun h=>h.elim ho j),aFQ (show¬(s.op=false\/s.ends=[]) from fun h=>h.elim ho hs)];split<;>rfl
 |sta v=>
  have E1:rQ (uV s c e) m (.sta v)=if s.op=false\/e=[] then(3,uV s c e) else if s.bh=true then(9,uV s c e) else(0,uV {s with sv:=v,bh:=true,last:=[],name:=[]} c e):=rfl
  have E2:rQ s n (.sta v)=if s.op=false\/s.ends=[] then(3,s) else if s.bh=true then(9,s) else(0,{s with sv:=v,bh:=true,last:=[],name:=[]}):=rfl
  rw[E1,E2];by_cases ho:s.op=false
  .rw[aFP (.inl ho),aFP (.inl ho)]
  .rw[aFQ (show¬(s.op=false\/e=[]) from fun h=>h.elim ho j),aFQ (show¬(s.op=false\/s.ends=[]) from fun h=>h.elim ho hs)];split<;>rfl
 |flg l=>
  have E1:rQ (uV s c e) m (.flg l)=if s.op=false\/e=[] then(3,uV s c e) else if s.bf=true\/CA l=true then(9,uV s c e) else if 20<l.length then(6,uV s c e) else(0,uV {s with fg:=tX l,bf:=true,last:=[],name:=[]} c e):=rfl
  have E2:rQ s n (.flg l)=if s.op=false\/s.ends=[] then(3,s) else if s.bf=true\/CA l=true then(9,s) else if 20<l.length then(6,s) else(0,{s with fg:=tX l,bf:=true,last:=[],name:=[]}):=rfl
  rw[E1,E2];by_cases ho:s.op=false
  .rw[aFP (.inl ho),aFP (.inl ho)]
  rw[aFQ (show¬(s.op=false\/e=[]) from fun h=>h.elim ho j),aFQ (show¬(s.op=false\/s.ends=[]) from fun h=>h.elim ho hs)];split
  .rfl
  split<;>rfl
def a3C {s s':St}{k:wC}{n:Int}(ho:s.op=true) (hf:k≠.fin) (h:rQ s n k=(0,s')):s'.op=true/\s'.c=s.c/\s'.ends=s.ends/\s'.id=s.id/\∀j t,k≠.beg j t:=by
 have hb: ∀j t,k≠.beg j t:=by
  rintro j t rfl;cases j<;>simp [rQ,ho] at h
 have D:(rQ s n k).1=0:=by rw[h]
 have z:(rQ s n k).2=s':=by rw[h]
 refine⟨?_,?_,?_,?_,hb⟩<;>rw[<-z]<;>cases k<;>first
  |rfl
  |exact absurd rfl hf
  |exact absurd rfl (hb _ _)
  |(rw[rQ];repeat' (first|rfl|exact ho|split|(unfold x6;dsimp only)))
def aCR (Q:pQ) (s:St):Prop:= ∀(c:C4) (ends:pZ) (a:Nat),ends≠[]->(∀y∈c.2.2.2.1,y.1≠s.id)->c.2.2.2.1.length<1000->uA Q (tS c ends) a= .inr (uV s c ends)
def Ja (P:pQ) (s:St):Prop:=
 (s=tG)\/(s.op=true/\s.ends=[])\/
 (∃H G T c,P=H++(G.flatten++T)/\JK H c.1 c.2.1 c.2.2.1/\CE G c.2.2.2.1/\LU T/\s=tS c (E8 H G))\/
 (∃H G Q,P=H++(G.flatten++Q)/\JK H s.c.1 s.c.2.1 s.c.2.2.1/\CE G s.c.2.2.2.1/\(Q≠[]/\aCR Q s)/\s.op=true/\s.ends=E8 H G)
def aCS {s s':St}{u:pP}{n:Int}(h:tM s u n=(0,s')):(BE u=true/\s'=s)\/∃k,rQ s n k=(0,s')/\∀(t:St) (m:Int),tM t u m=rQ t m k:=by
 by_cases hf:BE u=true
 .left;rw[cg n hf] at h;exact⟨hf,(aGd Prod.snd h).symm⟩
 right;have key: ∀(t:St) (m:Int),tM t u m=match HG u with|none=>(3,t) |some l=>rQ t m (zQ l):=fun t m=>by
  unfold tM;exact aFQ hf
 cases hw:HG u with
 |none=>
  have:=(key s n).symm.trans h;rw[hw] at this;cases this
 |some l=>
  refine⟨zQ l,?_,fun t m=>?_⟩
  .have:=(key s n).symm.trans h;rw[hw] at this;exact this
  have:=key t m;rw[hw] at this;exact this
def ck (A B:pQ) (l:pP) (G:List pQ):(A++(G.flatten++B))++[l]=A++(G.flatten++(B++[l])):=by simp
def aCT {T:pQ}{l:pP}(hT:LU T) (hl:BE (tV l)=true):LU (T++[l]):=fun c ends a=>AS (hT c ends a) (LR (cg _ hl))
def a3D: ∀(ps:pQ) (n:Nat) (p:pP),xT n (ps++[p])=xT n ps++[n+ps.flatten.length+p.length]
 |[],n,p=>by simp [xT]
 |q::ps,n,p=>by
  have:=a3D ps (n+q.length) p;simp only[cons_append,xT,aGw,aFR];rw[this];simp only[aGv]
def Jb (G:List pQ):(G.map List.flatten).flatten=G.flatten.flatten:=by
 induction G with
 |nil=>rfl
 |cons g G ih=>rw[aGU,aGw,aGw,flatten_append,ih]
def aCU (H:pQ) (G:List pQ) (q:pQ):E8 H (G++[q])=E8 H G++[(((H++(G.flatten++q)).flatten.length:Nat):Int)]:=by
 unfold E8;rw[map_append,map_singleton,a3D,Jb];simp [nI,aGv]
def aCV {P:pQ}{l:pP}{s s':St}(hr:uA P tG 0= .inr s) (Y:xF s) (h:Ja P s) (hs:tM s (tV l) ((P.flatten.length+l.length:Nat):Int)=(0,s')):Ja (P++[l]) s':=by
 have R:uA (P++[l]) tG 0= .inr s':=AS hr (LR (by rw[aGk];exact hs));rcases aCS hs with⟨hf,rfl⟩ |⟨k,j,V⟩
 .rcases h with h|h|⟨H,G,T,c,e,I,E,h3,h4⟩ |⟨H,G,Q,e,I,E,⟨h3,K⟩,h4,M⟩
  .exact .inl h
  .exact .inr (.inl h)
  .exact .inr (.inr (.inl ⟨H,G,T++[l],c,by rw[e,ck],I,E,aCT h3 hf,h4⟩))
  refine .inr (.inr (.inr ⟨H,G,Q++[l],by rw[e,ck],I,E,⟨by simp,fun c ends a g1 g2 g3=>?_⟩,h4,M⟩));exact AS (K c ends a g1 g2 g3) (LR (cg _ hf))
 rcases h with rfl|⟨I,E⟩ |⟨H,G,T,c,e,I,E,h3,rfl⟩ |⟨H,G,Q,e,I,E,⟨h3,K⟩,h4,M⟩
 .refine .inr (.inl ?_);cases k with
  |beg X t=>
   cases X with
   |true=>
    rw[rQ] at j;rw[aFQ (by simp [tG,tS])] at j;split at j
    .have e2:s'=yG tG (t,tG.c.2) t:=(aGd Prod.snd j).symm;rw[e2];exact⟨rfl,rfl⟩
    .cases j
   |false=>simp [rQ,tG,tS] at j
  |_=>simp [rQ,tG,tS] at j
 .by_cases F:k= .fin
  .subst F;refine .inr (.inr (.inl ⟨P++[l],[],[],s'.c,by simp,?_,?_,Iz,?_⟩))
   all_goals
    have D:=j;rw[rQ] at D;rw[aFQ (by rw[I];simp),aFP E,E,nil_append] at D;have z:=(aGd Prod.snd D).symm;have O:=Y.e0 E;dsimp only at z
   .unfold JK;rw[R,z];have:s.c.2.2.2=([],()):=by rw[<-O]
    show Sum.inr (tS (s.c.1,(s.cm,(s.fd,s.c.2.2.2))) _)=_;rw[this];simp [tS]
   .rw[z];show CE [] s.c.2.2.2.1;rw[O]
    trivial
   rw[z];simp [tS,E8,nI,xT]
  obtain⟨g1,g2,g3,g4,g5⟩:=a3C I F j;exact .inr (.inl ⟨g1,g3.trans E⟩)
 .cases k with
  |beg X t=>
   cases X with
   |true=>simp [rQ,tS,E8] at j
   |false=>
    rw[rQ] at j;split at j
    .cases j
    .split at j
     .cases j
     .rename_i ht;split at j
      .cases j
      .split at j
       .cases j
       .have e2:=(aGd Prod.snd j).symm;dsimp only at e2;refine .inr (.inr (.inr ⟨H,G,T++[l],by rw[e,ck],?_,?_,⟨by simp,fun c' ends a b1 b2 b3=>?_⟩,?_,?_⟩))
        .rw[e2];exact I
        .rw[e2];exact E
        .refine AS (h3 c' ends a) (LR ?_);rw[V,e2];rw[e2] at b2;rw[rQ];have U: ¬(c'.2.2.2.1.any fun y=>decide (y.1=t))=true:=fun h=>by
          obtain⟨y,Z,q⟩:=any_eq_true.1 h;exact b2 y Z (aGt q)
         rw[aFQ (by simp [tS,b1]),aFQ ht,aFQ (show¬((tS c' ends).c.2.2.2.1.any fun y=>decide (y.1=t))=true from U),aFQ (show¬1000<=(tS c' ends).c.2.2.2.1.length from by show¬1000<=c'.2.2.2.1.length;omega)];rfl
        .rw[e2];rfl
        .rw[e2];rfl
  |_=>simp [rQ,tS] at j
 have hne:s.ends≠[]:=by rw[M];simp [E8]
 by_cases F:k= .fin
 .subst F;have D:=j;rw[rQ] at D;rw[aFQ (by rw[h4];simp),aFQ hne] at D;have z:=(aGd Prod.snd D).symm;dsimp only at z;refine .inr (.inr (.inl ⟨H,G++[Q++[l]],[],s'.c,?_,?_,?_,Iz,?_⟩))
  .rw[e];simp
  .rw[z];exact I
  .rw[z];refine a3z E pV fun c ends a b1 b2 b3=>?_;refine AS (K c ends a b1 b2 b3) (LR ?_);rw[V];rw[rQ];rw[aFQ (show¬(uV s c ends).op=false from by show¬s.op=false;rw[h4];simp),aFQ (show¬(uV s c ends).ends=[] from b1)];have:((a+Q.flatten.length+l.length:Nat):Int)=((a+(Q++[l]).flatten.length:Nat):Int):=by simp [aGv]
   rw[this];rfl
  rw[z,aCU,M];have:(P.flatten.length+l.length:Nat)=(H++(G.flatten++(Q++[l]))).flatten.length:=by rw[e];simp [aGv]
  rw[this];rfl
 obtain⟨g1,g2,g3,g4,g5⟩:=a3C h4 F j;refine .inr (.inr (.inr ⟨H,G,Q++[l],by rw[e,ck],by rw[g2];exact I,by rw[g2];exact E,⟨by simp,fun c ends a b1 b2 b3=>?_⟩,g1,g3.trans M⟩));rw[g4] at b2;refine AS (K c ends a b1 b2 b3) (LR ?_);rw[V,aCQ c ((P.flatten.length+l.length:Nat):Int) _ hne b1 g5 F,j]
def a3E: ∀(ls:pQ) (s:St) (a:Nat) {s':St},xF s->uA ls s a= .inr s'->xF s'
 |[],s,a,s',h,e=>by cases e;exact h
 |l::ls,s,a,s',h,e=>by
  rw[LQ] at e;by_cases h0:(tM s (tV l) ((a+l.length:Nat):Int)).1=0
  .rw[aFP h0] at e;exact a3E ls _ _ (bn h _ _ h0) e
  rw[aFQ h0] at e;cases e
def a3F: ∀(n:Nat) (P:pQ),P.length=n->∀s,uA P tG 0= .inr s->Ja P s
 |0,P,j,s,h=>by
  have:P=[]:=aGJ.1 j;subst this;cases h;exact .inl rfl
 |n+1,P,j,s,h=>by
  have hne:P≠[]:=fun e=>by rw[e] at j;cases j
  have eP:=dropLast_concat_getLast hne;rw[<-eP] at h|-;obtain⟨m,z,E⟩:=a3h _ _ _ _ h;have D:=a3F n P.dropLast (by rw[length_dropLast];omega) m z;have h3:=aCg E;rw[aGk] at h3;exact aCV z (a3E _ _ _ Hr z) D h3
def aCW {s:pP}{st:St}(h:CC s= .inr st): ∃H G T,CY s=H++(G.flatten++T)/\JK H st.c.1 st.c.2.1 st.c.2.2.1/\CE G st.c.2.2.2.1/\LU T/\st.ends=E8 H G:=by
 rw[a3f] at h;cases hr:uA (CY s) tG 0 with
 |inl q=>rw[hr] at h;cases h
 |inr m=>
  rw[hr] at h;dsimp only at h;split at h
  .cases h
  rename_i j;have:=Sum.inr.inj h;subst this;rcases a3F _ (CY s) rfl m hr with e|⟨e1,e2⟩ |⟨H,G,T,c,e,D,z,h3,h4⟩ |⟨H,G,Q,e,D,z,h3,h4,E⟩
  .exact absurd (.inr (by rw[e];rfl)) j
  .exact absurd (.inr e2) j
  .subst h4;exact⟨H,G,T,e,D,z,h3,rfl⟩
  exact absurd (.inl h4) j
def R5 (s:pP):(qt s).length<=6*s.length+2:=by
  have:=Ik (n:=2) rfl s;simp only[qt,aFR,aFV,aF8];omega
def a3G {x:pP}(h:v7 x=true):x.length<=40:=by
  cases x with
  |nil=>simp
  | cons b t=>
    unfold v7 at h;simp only[aF0,aGj,aGu] at h;rw[aFV];omega
def a3H {l:pQ}(h:wS l=true):(HO l).length<=480260:=by
  obtain⟨D,z⟩:=HE h
  have:=QZ (l:=l) (h:=xH) (B:=24013) fun x j=>by
    have:=R5 x;have:=C9 (z x j);simp only[xH,aFR,aFV,aF8];omega
  unfold HO;have:=aHa 24013 D;omega
def a3I {l:List t6}(h:wB l=true):(JG l).length<=485080:=by
  obtain⟨D,z,_⟩:=HF h
  have:=QZ (l:=l) (h:=AB) (B:=24254) fun x j=>by
    have:=R5 x.1;have:=R5 x.2.1;have:=a3G (z x j).1;have:=C9 (z x j).2.2;simp only[AB,aFR,aFV,aF8];omega
  unfold JG;have:=aHa 24254 D;omega
def aCX {l:pQ}(h:CV l=true):(JH l).length<=1000:=by
  obtain⟨D,z,_⟩:=az h;unfold JH;split
  .simp
  rename_i hne
  cases l with
  |nil=>exact absurd rfl hne
  | cons x r=>
    have e:=aGd List.length (a3w (x:=x) (r:=r))
    have:=QZ (l:=x::r) (h:=fun y=>[32]++y) (B:=41) fun y j=>by
      have:=a3G (z y j);simp only[aFR,aFV,aF8];omega
    have h3:=aHa 41 D;unfold E7 at e;simp only[aFR,aFV,aF8] at e h3 this|-;omega
def a3J {p s:pP}(hp:p.length<=10) (h:sX s=true):(HP p s).length<=24013:=by
  have:=R5 s;have:=C9 h;unfold HP;split
  .simp
  simp only[aFR,aFV,aF8];omega
def aCY {x:tI}(h:yE x=true):(BF x).length<=1016000:=by
  have p:=Iv h;have G:=a3H p.cm;have F:=a3I p.fd;have h3:=aCX p.fg;have h4:=a3J (p:=AA) pU p.sc;have E:=a3J (p:=AR) pU p.tg;have D:=a2W p.sv0 p.sv4;have z:=R5 x.1;have j:=p.idl;unfold BF iE iD iC iB iA;simp only[aFR,aFV,aF8];omega
def aCZ {c:C4}(h:AP c=true):(HR c).length<=1000000:=by
  obtain⟨k1,k2,k3,_⟩:=UG h;have z:=a3H k2;have j:=a3I k3;have h3:=R5 c.1;have h4:=C9 (a2L k1);unfold HR;simp only[aFR,aFV,aF8];omega
def aC0 {s:pP}(hs:s.length<=1100000000) {st:St}(hr:CC s= .inr st) {H T:pQ}{G:List pQ}(hl:s=H.flatten++((G.map List.flatten).flatten++T.flatten)) (D:st.ends=E8 H G):
  DY s=some (H.flatten,G.map List.flatten,T.flatten,0):=by
 have h:=Ib hs;rw[hr] at h;obtain⟨P,F,E,h3,h4⟩:=h;obtain⟨k1,k2,k3,⟨l,g1,g2,g3⟩,k5⟩:=a2i hr;have z:l=H.flatten.length::xT H.flatten.length (G.map List.flatten):=by
  have e:nI l=nI (H.flatten.length::xT H.flatten.length (G.map List.flatten)):=g1.symm.trans D;have:=aGd (List.map Int.toNat) e;rwa [a2j,a2j] at this
 have j:l.length<=5000:=by
  have:=a1A k1;rw[g1,aGV] at this;omega
 have hne:l≠[]:=fun e=>k3 (by rw[g1,e];rfl);rw[aBB pT hne g2 g3 j E (show P.ends=_ from F.ends.trans g1),z,aB4 hl,aB5 hl,aB6 hl]
def aC1 {s:pP}(hs:s.length<=1100000000) {q:Nat×Int}(hr:CC s= .inl q):DY s=some ([],[],[],q.2)/\q.2≠0:=by
 have h:=Ib hs;rw[hr] at h;obtain⟨z,j,h3⟩:=h;refine⟨?_,h3⟩;unfold DY;rw[z,j,aFQ pV,aFT,aFP (by simpa using h3)]
def aC2 {s:pP}(hs:s.length<=1100000000) {q:Nat×Int}(hr:CC s= .inl q):A6 s=some ([],[],[],[],(q.1:Int),q.2):=by
 rw[a2g hs,hr];rfl
def a3K {s:pP}(hs:s.length<=1100000000) {st:St}(hr:CC s= .inr st):A6 s=some (st.c.1,st.c.2.1,st.c.2.2.1,st.c.2.2.2.1,0,0):=by
 rw[a2g hs,hr];rfl
def aC3 {s:pP}{H T:pQ}{G:List pQ}(h:CY s=H++(G.flatten++T)):s=H.flatten++((G.map List.flatten).flatten++T.flatten):=by
 conv=>lhs;rw[<-aCc s,h]
 rw[flatten_append,flatten_append,Jb]
def aC4 {es:List tI}{x:tI}{k:Nat}(h:es.Pairwise (fun a b=>a.1≠b.1)) (E: ∀(j:Nat) (z:j<es.length),j≠k->es[j].1≠x.1):(es.set k x).Pairwise (fun a b=>a.1≠b.1):=by
 rw[aGr] at h|-;intro i j hi z D;rw[length_set] at hi z;rw[getElem_set,getElem_set];by_cases G:k=i
 .rw[aFP G,aFQ pT];exact fun e=>E j z pT e.symm
 rw[aFQ G];by_cases F:k=j
 .rw[aFP F];exact E i hi pT
 rw[aFQ F];exact h i j hi z D
def aC5 {es:List tI}{x:pP}{k:Nat}(hp:es.Pairwise (fun a b=>a.1≠b.1)) (h:(QN es x).2=true->(QN es x).1=(k:Int)): ∀(j:Nat) (D:j<es.length),j≠k->es[j].1≠x:=by
 intro j D hne E;unfold QN at h;cases hf:es.findIdx? fun y=>decide (y.1=x) with
 |none=>
  have:=aGM.1 hf es[j] (aGG D);rw[E] at this;simp at this
 |some i=>
  rw[hf] at h;have I:(i:Int)=(k:Int):=h rfl;obtain⟨hi,F,_⟩:=aGW.1 hf;have z:es[i].1=x:=by simpa using F
  rw[aGr] at hp;rcases aG6 i j with G|G
  .exact hp i j hi D G (by rw[z,E])
  exact hp j i D hi pT (by rw[z,E])
def aC6 {es:List tI}{x:tI}{k:Nat}(h:OC es) (E:yE x=true) (hf: ∀(j:Nat) (F:j<es.length),j≠k->es[j].1≠x.1):OC (es.set k x):=
 ⟨by rw[length_set];exact h.len,fun y D=>by
  rcases mem_or_eq_of_mem_set D with z|z
  .exact h.ok y z
  rw[z];exact E,aC4 h.pw hf⟩
def aC7 {x:tI}(j:yE x=true):OC [x]:=⟨by simp,fun y h=>by rw[aF7.1 h];exact j,aHR _ _⟩
def aC8 {c:C4}(h:AP c=true):OC c.2.2.2.1:=by
 obtain⟨_,_,_,h4,z,j⟩:=UG h;exact⟨h4,z,j⟩
def aC9 {a:Int}(h0:0<=a) (j:a<65536) {n:Nat}(h:0<n): ∃k:Nat,k<n/\Int.tmod (IntKind.wrap .i64 a) (n:Int)=(k:Int):=by
 obtain⟨m,rfl⟩:=Int.eq_ofNat_of_zero_le h0;refine⟨m%n,Nat.mod_lt _ h,?_⟩;have hw:IntKind.wrap .i64 (m:Int)=(m:Int):=by
  have e:(m:Int) %2^64=m:=Int.emod_eq_of_lt pT pT;have e2:IntKind.wrap .i64 (m:Int)=if (true&&decide ((m:Int) %2^64>=2^63))=true then(m:Int) %2^64-2^64 else(m:Int) %2^64:=rfl;rw[e2,e,aFQ pW]
 rw[hw];exact(Int.ofNat_tmod m n).symm
def aDa {ts:pQ}{x:pP}: ∀(k:Nat),(ts.set k x).flatten.length<=ts.flatten.length+x.length:=by
 induction ts with
 |nil=>intro k;simp
 |cons t ts ih=>
  intro k;cases k with
  |zero=>simp only[set_cons_zero,aGw,aFR];omega
  |succ k=>
   have:=ih k;simp only[set_cons_succ,aGw,aFR];omega
def a3L {c:C4}{H T:pQ}{G:List pQ}(hH:JK H c.1 c.2.1 c.2.2.1) (j:CE G c.2.2.2.1) (hT:LU T) (hp:c.2.2.2.1.Pairwise (fun a b=>a.1≠b.1)) (hl:c.2.2.2.1.length<=1000) (h:E6 (H++(G.flatten++T)))
  (hsm:(CX H.flatten (G.map List.flatten) T.flatten).length<=1100000000):A6 (CX H.flatten (G.map List.flatten) T.flatten)=some (c.1,c.2.1,c.2.2.1,c.2.2.2.1,0,0):=by
 have e:CX H.flatten (G.map List.flatten) T.flatten=(H++(G.flatten++T)).flatten:=by
  unfold CX;rw[flatten_append,flatten_append,Jb]
 exact a3K hsm (by rw[e];exact aCO hH j hT hp hl h)
def aDb {α:Type}{l:List α}{k:Nat}(h:k<l.length) (x:α):l=l.take k++l[k]::l.drop (k+1)/\l.set k x=l.take k++x::l.drop (k+1):=by
 refine⟨?_,?_⟩
 .rw[<-aGs h,aG1]
 rw[set_eq_take_append_cons_drop,aFP h]
def aDc {H T:pQ}{G:List pQ}{k:Nat}{g:pQ}(j:k<G.length) (hne:G[k]≠[]) (z:BG g) (h:E6 (H++(G.flatten++T))):E6 (H++((G.set k g).flatten++T)):=by
 obtain⟨e1,e2⟩:=aDb j g;rw[e1] at h;rw[e2];simp only[flatten_append,aGw,aF3] at h|-;obtain⟨_,E,w1⟩:=R3 h;obtain⟨_,D,w2⟩:=R3 E;obtain⟨_,h3,_⟩:=R3 D;refine UW (w1 (by simp [hne])) (UW (w2 (by simp [hne])) (UW z h3))
def a3M: ∀{G:List pQ}{es:List tI},CE G es->∀g∈G,g≠[]
 |[],[],_,_,h=>by cases h
 |_::_,_::_,h,g,j=>by
  rcases aF1.1 j with rfl|j
  .exact h.1.1
  .exact a3M h.2 g j
 |[],_::_,h,_,_=>h.elim
 |_::_,[],h,_,_=>h.elim
def Jc {G:List pQ}{k:Nat}{x:tI}:(G.set k (EX x)).map List.flatten=(G.map List.flatten).set k (BF x):=by rw[map_set,aCz]
def aDd (s:pP) {a:Int}(h0:0<=a) (h1:a<65536) {x:tI}(hx:Ih x):O7 s a x=some true:=by
 unfold O7;rw[aBC,aFT,aFQ pU];obtain⟨b,hb,hu,ht⟩:=aBO x hx;rw[hb,hu,aFP xS];by_cases R:((decide ((4000:Int)<(s.length:Int)))||(!b))=true
 .rw[R,aFP (fun h=>absurd h pU),aFP (by rw[Bool.true_or])]
 rw[aGZ] at R;rw[R];simp only[aHb,aGu,aHu] at R;have hw:=ht R.2;obtain⟨hv,he⟩:=aBK x hw.fitP;rw[hv,he,aFP xS,Bool.false_or];by_cases z:yE x=true
 .rw[aFQ (by rw[z];decide)];have hy:s.length<=4000:=by have:=R.1;omega
  have hsm:s.length<=1100000000:=by omega
  cases hr:CC s with
  |inl q=>
   obtain⟨g1,g2⟩:=aC1 hsm hr;rw[g1,aFT,aC2 hsm hr,aFT];dsimp only;refine(aFP (show ((!decide (q.2=0))||(!decide (q.2=0)))=true by simp [g2])).trans ?_
   simp
  |inr st=>
   obtain⟨H,G,T,e1,e2,e3,e4,e5⟩:=aCW hr;have p3:=aC3 e1;have p7:=(a2i hr).2.2.2.2;have D:=aCf s;rw[e1] at D;rw[aC0 hsm hr p3 e5,aFT,a3K hsm hr,aFT];generalize st.c=c at p7 e2 e3;obtain⟨tag,cms,fds,es,⟨⟩⟩:=c;dsimp only at e2 e3;have M:=UG p7;dsimp only at M;have O:OC es:=aC8 p7;have hd:=a2N p7;have K:=a3y e3;dsimp only;rw[aFQ (show¬((!decide ((0:Int)=0))||(!decide ((0:Int)=0)))=true by decide),a24 hd,aFP p7,aFT]
   have I:AP (([120]:pP),(([]:pQ),(([]:List r9),(([x]:List sQ),()))))=true:=Hm qH qH qH (aC7 z);rw[a24 (a2N I),aFP I,aFT];dsimp only;rw[aFQ (by simp [K])];have X:=aGd List.length p3;simp only[aFR] at X;have hH:(HR (tag,(cms,(fds,(es,()))))).length<=1000000:=aCZ p7;have V:(CX (HR (tag,(cms,(fds,(es,()))))) (G.map List.flatten) []).length<=1100000000:=by
    unfold CX;simp only[aFR,aF8];omega
   rw[a2C (HR (tag,(cms,(fds,(es,())))),(G.map List.flatten,(([]:pP),()))) (by show (G.map List.flatten).length<=_;rw[aGV];have:=O.len;omega) (by exact aGL V pU),aFT];dsimp only;have F:=a3L (c:=(tag,(cms,(fds,(es,()))))) (H:=LS (tag,(cms,(fds,(es,()))))) (T:=[]) (aCK M.1 M.2.1 M.2.2.1) e3 Iz O.pw O.len
    (UW (aCE _) (by rw[append_nil];exact(R3 (R3 D).2.1).1)) (by rw[a3q];exact V)
   rw[a3q] at F;rw[show CX (HR (tag,(cms,(fds,(es,()))))) (G.map List.flatten) []=CX (HR (tag,(cms,(fds,(es,()))))) (G.map List.flatten) (List.flatten []) from rfl,F,aFT];dsimp only;obtain⟨q1,q2⟩:=a1o p7;dsimp only at q2;rw[q1,aFP xS,q2,aFQ pV];by_cases Z:(decide (((G.map List.flatten).length:Int)=(0:Int)))=true
   .rw[aFP Z]
   rw[aFQ Z];have ha:0<(G.map List.flatten).length:=by simp only[aFY] at Z;omega
   obtain⟨k,hk,hg⟩:=aC9 h0 h1 ha;rw[aGV] at hk;rw[aFP (show ((G.map List.flatten).length:Int)≠0 by omega),aAw _ _ (show es.length<=5000 by have:=O.len;omega),aFT,hg];dsimp only;by_cases hf:((QN es x.1).2&&(!decide ((QN es x.1).1=(k:Int))))=true
   .rw[aFP hf]
   rw[aFQ hf];have hh: ∀(j:Nat) (hj:j<es.length),j≠k->es[j].1≠x.1:=aC5 O.pw (fun h=>by
    rw[h] at hf;simpa using hf)
   have Q:=aC6 O z hh;have Y:=a3A (g:=EX x) (x:=x) k e3 (aCM x) (aCL z);have hC:=aDa (ts:=G.map List.flatten) (x:=BF x) k;have hB:=aCY z;have U:(CX H.flatten ((G.map List.flatten).set k (BF x)) T.flatten).length<=1100000000:=by
    unfold CX;simp only[aFR];omega
   have hD:=O.len;have hF:(G.map List.flatten).length=es.length:=by rw[aGV,K]
   rw[nil_append,nil_append,aGI,aFP pT,aFP pV,aFP pT,aFP pT,aFP pT];have hn:qV .str (List.map BF [x]) (0:Int)=BF x:=rfl;rw[hn,a2C (H.flatten,((G.map List.flatten).set k (BF x),(T.flatten,()))) (by show ((G.map List.flatten).set k (BF x)).length<=_;rw[length_set];omega) (by exact aGL U pU),aFT];dsimp only;have E:=a3L (c:=(tag,(cms,(fds,(es.set k x,()))))) e2 Y e4 Q.pw Q.len (aDc hk (a3M e3 _ (aGG hk)) (aCD z) D) (by rw[Jc];exact U);rw[Jc] at E;rw[E,aFT];dsimp only;have p8:AP (tag,(cms,(fds,(es.set k x,()))))=true:=Hm M.1 M.2.1 M.2.2.1 Q;obtain⟨q3,q4⟩:=a1o p8;dsimp only at q4;rw[aFP pV,q3,aFP xS,q4];rfl
 rw[aGZ] at z;rw[aFP (by rw[z];decide)]
end Go.Proofs.YtcpbaddnmpeipaaGreatDoor
