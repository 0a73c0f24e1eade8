/- BlocksContinued returns true for all arguments (a comment divided into two strings, the second in a line of its own, reads as the comment): the tied card of the statement, over the row's statement. No condition. -/
/- Packed by a program of mine (wip/tools/pack.py): the same texts with short names and few blanks. -/
import Derived.Deep.CondSized
import Derived.Deep.DeepHandedRow
import Derived.Deep.DeepWitnessRowRef
import Derived.Laws.BitsLemmas
import Derived.Lib.Index
import Derived.Lib.IndexAny
import Derived.Lib.LaidIn
import Derived.Lib.LaidTab
import Derived.Lib.LaidU8T
import Derived.Lib.MapLaws
import Derived.Lib.TrimAscii
import Derived.Lib.TrimUEq
import Derived.Lib.ValidLaws
import Derived.OpenShut
import Derived.ProofKit
import Derived.SevenTiedAt
import Derived.SizedLaws
import Derived.Sort.Walk0
import Derived.Test.YtcpbaddnmpeipaaGreatDoorCards
import Derived.Test.YtcpbaddnmpeipaaGreatDoorRows
import Derived.Test.YtcpbaddnmpeipaaGreatDoorTie
import Derived.WalkKit
import Derived.Test.YtcpbaddnmpeipaaGreatDoorC04
set_option linter.defProp false
set_option linter.unusedVariables false
set_option linter.unusedSimpArgs false
set_option linter.unusedSectionVars false
set_option maxRecDepth 100000
set_option maxHeartbeats 4000000
namespace Go.Proofs.YtcpbaddnmpeipaaGreatDoor
open Vc
theorem uN {σ ρ:Type}(f:σ→Option (σ⊕ρ)) (x:σ):sC f x=(f x).bind fun w=>match w with
    | .inl y=>sC f y
    | .inr r=>some r:=by
  cases h:f x with
  | none=>
    cases h2:sC f x with
    |none=>rfl
    | some r=>
      obtain⟨n,hn⟩:=VT h2;cases n with
      |zero=>cases hn
      |succ n=>unfold iter at hn;rw[h] at hn;cases hn
  | some w=>
    cases w with
    |inl y=>exact NP h
    |inr r=>exact BV h
theorem OQ {t:Ty}{l:List t.den}{i:Nat}(h:i<l.length):qT t l (i:Int)=l[i]:=by
  unfold qT;rw[aTi,aSO,aSv h];rfl
theorem OR {l:pM}{i:Nat}(h:i<l.length):sH l (i:Int)=(l[i].toNat:Int):=by
  unfold sH;rw[aTi,aSO,aSv h];rfl
def zG {β:Type}(f:Nat→β) (b:β):pZ→β
  |some k=>f k
  |none=>b
theorem aFE {α ρ:Type}{f:Int→Option (Int⊕(Unit⊕ρ))}{l:List α}(p:α→Bool) (g:Nat→ρ)
    (hf: ∀(i:Nat) (h:i<l.length),f i=if p l[i]=true then some (.inr (.inr (g i))) else some (.inl (i+1)))
    (he:f l.length=some (.inr (.inl ()))): ∀(n j:Nat),j+n=l.length→sC f j=some (zG (fun k=> .inr (g (j+k))) (.inl ()) ((l.drop j).findIdx? p))
  | 0,j,hj=>by
    have:j=l.length:=by omega
    subst this;rw[aTs,uN,he];rfl
  | n+1,j,hj=>by
    have hlt:j<l.length:=by omega
    rw[uN,hf j hlt,aS4 hlt,aTZ];by_cases hp:p l[j]=true
    · rw[aSn hp,aSn hp]
      rfl
    rw[aSo hp,aSo hp]
    show sC f ((j:Int)+1)=_;have:=aFE p g hf he n (j+1) pQ;rw[show ((j:Int)+1)=((j+1:Nat):Int) by omega,this];cases(l.drop (j+1)).findIdx? p with
    |none=>rfl
    | some k=>
      show some (Sum.inr (g (j+1+k)))=some (Sum.inr (g (j+(k+1))));rw[show j+1+k=j+(k+1) by omega]
theorem RY {α ρ:Type}{f:Int→Option (Int⊕(Unit⊕ρ))}{l:List α}(p:α→Bool) (g:Nat→ρ)
    (hf: ∀(i:Nat) (h:i<l.length),f i=if p l[i]=true then some (.inr (.inr (g i))) else some (.inl (i+1)))
    (he:f l.length=some (.inr (.inl ()))):sC f 0=some (zG (fun k=> .inr (g k)) (.inl ()) (l.findIdx? p)):=by
  have:=aFE p g hf he l.length 0 pQ;simpa using this
theorem aFF {s:pM}{i:Nat}(h:i<s.length) (ha:s[i].toNat<128):x6 s i=(s[i].toNat:Int)∧AP s i=i+1:=by
  have h1:=Lib.decodeL_drop ⟨s.toArray⟩ i
  have h2:(⟨s.toArray⟩:ByteArray).data.toList.drop i=s[i]::s.drop (i+1):=by
    show s.drop i=_;rw[aS4 h]
  rw[h2,Lib.decodeL_ascii _ _ ha] at h1;unfold x6 AP a0h;rw[←h1,aSn h];exact⟨rfl,rfl⟩
theorem aNa {n b0 b1 b2 b3:Nat}(h:128≤b0):128≤(Lib.decodeN n b0 b1 b2 b3).1:=by
  unfold Lib.decodeN
  repeat' split
  all_goals first|omega|(dsimp only;omega)
theorem aFG {s:pM}{i:Nat}(h:i<s.length) (ha:128≤s[i].toNat):128≤x6 s i:=by
  unfold x6;rw[Lib.decode_at]
  have:(⟨s.toArray⟩:ByteArray).get! i=s[i]:=by
    show s.toArray[i]! =_;simp [h]
  rw[this];exact Int.ofNat_le.2 (aNa ha)
theorem aFH {ρ:Type}{f:Nat→Option (Nat⊕(Unit⊕ρ))}{s:pM}(p:Int→Bool) (g:Nat→ρ) (hb: ∀c,128≤c→p c=true)
    (hf: ∀(i:Nat) (h:i<s.length),f i=if p (x6 s i)=true then some (.inr (.inr (g i))) else some (.inl (AP s i)))
    (he:f s.length=some (.inr (.inl ()))): ∀(n j:Nat),j+n=s.length→sC f j=some (zG (fun k=> .inr (g (j+k))) (.inl ()) ((s.drop j).findIdx? (fun b=>p b.toNat)))
  | 0,j,hj=>by
    have:j=s.length:=by omega
    subst this;rw[aTs,uN,he];rfl
  | n+1,j,hj=>by
    have hlt:j<s.length:=by omega
    rw[uN,hf j hlt,aS4 hlt,aTZ];by_cases ha:s[j].toNat<128
    · obtain⟨e1,e2⟩:=aFF hlt ha
      rw[e1,e2];by_cases hp:p (s[j].toNat:Int)=true
      · rw[aSn hp,aSn hp]
        rfl
      rw[aSo hp,aSo hp]
      show sC f (j+1)=_;rw[aFH p g hb hf he n (j+1) pQ];cases(s.drop (j+1)).findIdx? (fun b=>p b.toNat) with
      |none=>rfl
      | some k=>
        show some (Sum.inr (g (j+1+k)))=some (Sum.inr (g (j+(k+1))));rw[show j+1+k=j+(k+1) by omega]
    rw[aSn (hb _ (aFG hlt pQ)),aSn (hb _ pQ)]
    rfl
theorem aNb {ρ:Type}{f:Nat→Option (Nat⊕(Unit⊕ρ))}{s:pM}(p:Int→Bool) (g:Nat→ρ) (hb: ∀c,128≤c→p c=true)
    (hf: ∀(i:Nat) (h:i<s.length),f i=if p (x6 s i)=true then some (.inr (.inr (g i))) else some (.inl (AP s i)))
    (he:f s.length=some (.inr (.inl ()))):sC f 0=some (zG (fun k=> .inr (g k)) (.inl ()) (s.findIdx? (fun b=>p b.toNat))):=by
  have:=aFH p g hb hf he s.length 0 pQ;simpa using this
def sO {α:Type}(l:List α):Prop:=l.length≤4000000000
theorem yH {i:Nat}(h:i≤4000000000):qP ((i:Int)+1):=by unfold qP;omega
theorem uV {i n:Nat}(h:i<n):0≤(i:Int)∧(i:Int)<(n:Int):=⟨pQ,pQ⟩
theorem wV {i n:Nat}(h:i<n):decide ((i:Int)<(n:Int))=true:=by simpa using h
theorem BB (n:Nat): ¬decide ((n:Int)<(n:Int))=true:=by simp
theorem aFI {α:Type}{p:α→Bool}: ∀{l:List α},(l.findIdx? p).isSome=l.any p
  |[]=>rfl
  | x::l=>by
    rw[aTZ,List.any_cons];cases p x with
    |true=>rfl
    |false=>simp [aFI (l:=l)]
theorem XL {α β:Type}{p:α→Bool}{l:List α}{f:Nat→β}{b:β}:zG f b (l.findIdx? p)=if l.any p=true then f ((l.findIdx? p).getD 0) else b:=by
  rw[←aFI];cases l.findIdx? p with
  |none=>rfl
  |some k=>rfl
def RZ (c:Int):Bool:=(((!((decide ((97:Int)≤c))&&(decide (c≤(122:Int)))))&&(!((decide ((48:Int)≤c))&&(decide (c≤(57:Int))))))&&(!decide (c=(45:Int))))&&((decide (c<(65:Int)))||(decide ((90:Int)<c)))
def xH (s:pM):Bool:= !(s.any fun b=>RZ b.toNat)&&((decide ((1:Int)≤(s.length:Int)))&&(decide ((s.length:Int)≤(40:Int))))
def XM (c:Int):Bool:=((((decide (c<(97:Int)))||(decide ((122:Int)<c)))&&((decide (c<(65:Int)))||(decide ((90:Int)<c))))&&((decide (c<(48:Int)))||(decide ((57:Int)<c))))&&(!decide (c=(45:Int)))
theorem aNc (c:Int):XM c=RZ c:=by
  unfold XM RZ;rw[aUf];simp;omega
theorem a7F (s:pM):CQ s=some (xH s):=by
  have h:=aNb (f:=R6 s) (s:=s) (fun c=>XM c) (fun _=>false) (fun c h=>by unfold XM;simp;omega) (fun i h=>by
    unfold R6;rw[aSn (by simpa using h),aSn (by simpa using h)];rfl) (by
    unfold R6;rw[aSo pS])
  unfold CQ;rw[h,XL];simp only[aNc];unfold xH;cases s.any fun b=>RZ b.toNat<;>rfl
def AD (c:Int):Bool:=((((!((decide ((97:Int)≤c))&&(decide (c≤(122:Int)))))&&(!((decide ((48:Int)≤c))&&(decide (c≤(57:Int))))))&&(!decide (c=(45:Int))))&&(!decide (c=(95:Int))))&&(!decide (c=(46:Int)))
def C0 (c:Int):Bool:=(decide ((97:Int)≤c))&&(decide (c≤(122:Int)))
def w9:pM→Bool
  |[]=>false
  |b::t=>(!decide (40<t.length+1)&&C0 b.toNat)&& !(t.any fun b=>AD b.toNat)
theorem aFJ (s:pM): ∀(n j:Nat),j+n=s.length→sC (O1 s) j=some (if (s.drop j).any (fun b=>AD b.toNat)=true∨(j=0∧s≠[]∧C0 (s.getD 0 0).toNat=false) then .inr false else .inl ())
  | 0,j,hj=>by
    have:j=s.length:=by omega
    subst this;rw[aTs,uN];unfold O1;rw[aSo pS];by_cases h0:s=[]
    .subst h0;simp
    · have:s.length≠0:=by simpa using h0
      simp [this]
  | n+1,j,hj=>by
    have hlt:j<s.length:=by omega
    have ih:=aFJ s n (j+1) pQ;rw[uN,aS4 hlt,List.any_cons]
    have hstep:O1 s j=if (AD (s[j].toNat:Int)=true∨(j=0∧C0 (s[j].toNat:Int)=false)) then some (.inr (.inr false)) else some (.inl (j+1)):=by
      unfold O1;rw[aSn (by simpa using hlt),aSn (by simpa using hlt),aSn (by simpa using hlt)];by_cases ha:s[j].toNat<128
      · obtain⟨e1,e2⟩:=aFF hlt ha
        rw[e1,e2];by_cases h1:C0 (s[j].toNat:Int)=true
        · rw[aSn (by unfold C0 at h1;exact h1),aSo]
          unfold C0 at h1;simp only[aSA,aSx] at h1;simp [AD,C0];omega
        have h1':C0 (s[j].toNat:Int)=false:=by simpa using h1
        rw[aSo (by unfold C0 at h1;exact h1)]
        have h2: ¬(97≤(s[j].toNat:Int)∧(s[j].toNat:Int)≤122):=by
          unfold C0 at h1;simpa using h1
        by_cases h3:AD (s[j].toNat:Int)=true∨j=0
        · rw[aSo,aSn]
          · rcases h3 with h3|h3
            .exact .inl h3
            exact .inr ⟨h3,h1'⟩
          simp [AD] at h3|-
          omega
        rw[aSn,aSo]
        · intro h
          rcases h with h|⟨h,_⟩
          .exact h3 (.inl h)
          exact h3 (.inr h)
        simp [AD] at h3|-
        omega
      have hb:=aFG hlt pQ
      rw[aSo pT,aSo pT,aSn (.inl (by simp [AD];omega))]
    rw[hstep];have hd:s.getD 0 0=s[0]'pQ:=by simp [aSO,aSv (show 0<s.length by omega)]
    have hne:s≠[]:=by intro h;subst h;simp at hlt
    by_cases hp:AD (s[j].toNat:Int)=true∨(j=0∧C0 (s[j].toNat:Int)=false)
    · rw[aSn hp,aSn]
      .rfl
      rcases hp with hp|⟨rfl,hp⟩
      .left;simp [hp]
      right;exact⟨rfl,hne,by rw[hd];exact hp⟩
    rw[aSo hp]
    show sC _ (j+1)=_;rw[ih]
    have hnb:AD (s[j].toNat:Int)=false:=by
      cases h:AD (s[j].toNat:Int) with
      |true=>exact absurd (.inl h) hp
      |false=>rfl
    simp only[hnb,Bool.false_or];congr 2;apply propext;constructor
    · rintro(h|⟨h,_⟩)
      .exact .inl h
      omega
    rintro(h|⟨rfl,_,h⟩)
    .exact .inl h
    rw[hd] at h
    exact absurd (.inr ⟨rfl,h⟩) hp
theorem XN (s:pM):CR s=some (w9 s):=by
  have h:=aFJ s s.length 0 pQ;unfold CR;rw[h,aTG];cases s with
  |nil=>simp [w9,uS]
  | cons b t=>
    simp only[List.any_cons,List.getD_cons_zero,ne_eq,reduceCtorEq,not_false_eq_true,true_and,w9];cases hs:C0 b.toNat with
    |false=>simp [uS]
    | true=>
      have hn:AD b.toNat=false:=by
        unfold C0 at hs;simp only[aSA,aSx] at hs;simp [AD];omega
      simp only[hn,Bool.false_or];cases t.any (fun b=>AD b.toNat) with
      |true=>simp [uS]
      | false=>
        simp only[aTO,false_or,and_false,aUt];show some (decide ((1:Int)≤((b::t).length:Int))&&decide (((b::t).length:Int)≤40))=_;congr 1;rw[aUf];simp only[aSt,aSA,aSx,aSR,aS2,Bool.not_false,and_true];omega
theorem XO {β:Type}{f:Nat→β}{b:β}{o:pZ}:uS (some (zG (fun k=> .inr (f k)) (.inl ()) o)) (fun _=>some b)=some (zG f b o):=by
  cases o<;>rfl
theorem aNd (l:pN) (s:pM) (hl:sO l):EC l s=some (zG (fun k=>(k:Int)) (-1) (l.findIdx? fun x=>decide (s=x))):=by
  unfold sO at hl
  have h:=RY (f:=RC l s) (l:=l) (fun x=>decide (s=x)) (fun k=>(k:Int)) (fun i h=>by
    unfold RC;rw[aSn (wV h),aSn (uV h),OQ (t:= .str) h,aSn (yH pQ)]) (by
    unfold RC;rw[aSo (BB _)])
  unfold EC;rw[h,XO]
theorem aFK {α:Type}{p:α→Bool}{l:List α}:decide ((0:Int)≤zG (fun k=>(k:Int)) (-1) (l.findIdx? p))=l.any p:=by
  rw[XL];cases l.any p
  .rfl
  simp only[aTW,aSx];omega
def BC:pN:=[[110,101,119],[102,117,122,122,121],[116,114,97,110,115,108,97,116,101,100],[114,101,118,105,101,119,101,100],[111,98,115,111,108,101,116,101]]
def AE (s:pM):Int:=zG (fun k=>(k:Int)) (-1) (BC.findIdx? fun x=>decide (x=s))
abbrev sX:=pM×pM×Unit
abbrev tF:Ty:= .pair .str (.pair .str .unit)
def y5 (l:List sX) (n:pM):pZ:=l.findIdx? fun x=>decide (x.1=n)
def HP (l:List sX) (n:pM):pM×Bool:=zG (fun k=>((l.getD k ([],[],())).2.1,true)) ([],false) (y5 l n)
theorem aNe (l:List sX) (n:pM):(HP l n).2=l.any fun x=>decide (x.1=n):=by
  unfold HP y5;rw[XL];cases l.any fun x=>decide (x.1=n)<;>rfl
theorem aNf (l:List sX) (n:pM) (hl:sO l):M2 l n=some (zG (fun k=>(k:Int)) (-1) (y5 l n)):=by
  unfold sO at hl
  have h:=RY (f:=RG l n) (l:=l) (fun x=>decide (x.1=n)) (fun k=>(k:Int)) (fun i h=>by
    unfold RG;rw[aSn (wV h),aSn (uV h),OQ (t:=tF) h,aSn (yH pQ)]) (by
    unfold RG;rw[aSo (BB _)])
  unfold M2 O8;rw[h,XO];rfl
theorem XP {l:List sX}{n:pM}{k:Nat}(h:y5 l n=some k):k<l.length:=by
  unfold y5 at h;exact(aTx.1 h).1
theorem aNg (l:List sX) (n:pM) (hl:sO l):JH l n=some (HP l n):=by
  unfold JH;rw[aNf l n hl];unfold HP;cases h:y5 l n with
  |none=>rfl
  | some k=>
    have hk:=XP h;simp only[zG,aSq];rw[aSo pS,aSn (uV hk),OQ (t:=tF) hk];simp only[zG,aSO,aSv hk];rfl
def uD (l:List sX) (n:pM):Nat:=(l.findIdx? fun x=> !(Op.bytesLess x.1 n||decide (x.1=n))).getD l.length
def yI (l:List sX) (n v:pM):List sX:=zG (fun k=>l.set k (n,v,())) (l.take (uD l n)++[(n,v,())]++l.drop (uD l n)) (y5 l n)
theorem aNh (l:List sX) (n:pM):uD l n≤l.length:=by
  unfold uD;cases h:l.findIdx? fun x=> !(Op.bytesLess x.1 n||decide (x.1=n)) with
  |none=>exact aSJ _
  |some k=>exact Nat.le_of_lt (aTx.1 h).1
theorem aNi {l:List sX}{n:pM}{k:Nat}(h:y5 l n=some k) (hk:k<l.length):l[k].1=n:=by
  unfold y5 at h;have:=(aTx.1 h).2.1;simpa using this
theorem S0 {α:Type}{l:List α}{k:Nat}:rV l 0 (k:Int)=l.take k:=by unfold rV;simp
theorem HR {α:Type}{l:List α}{k:Nat}:rV l (k:Int) (l.length:Int)=l.drop k:=by
  unfold rV;rw[aTi,aTi,List.take_of_length_le];rw[aSW];exact aSJ _
def AF (n:Int):Prop:=0≤n∧n≤1114111∧(n<55296∨57343<n)
def y6 (n:Int):Bool:=(((decide ((0:Int)≤n))&&(decide (n≤(1114111:Int))))&&((decide (n<(55296:Int)))||(decide ((57343:Int)<n))))
theorem JN (n:Int):y6 n=true↔AF n:=by
  unfold y6 AF;simp;omega
theorem XQ {n:Int}(h0:0≤n) (h1:n≤127):Lib.encodeRune n=tD [n]:=by
  unfold Lib.encodeRune;rw[Lib.encodeRuneZ_one h0 h1];rfl
theorem XR {n:Int}(h0:128≤n) (h1:n≤2047):Lib.encodeRune n=tD [192+n/64,128+n%64]:=by
  unfold Lib.encodeRune;rw[Lib.encodeRuneZ_two h0 h1];rfl
theorem a7G {n:Int}(h:(2048≤n∧n<55296)∨(57343<n∧n≤65535)):Lib.encodeRune n=tD [224+n/4096,128+n/64%64,128+n%64]:=by
  unfold Lib.encodeRune;rw[Lib.encodeRuneZ_three h];rfl
theorem aFL {n:Int}(h0:65536≤n) (h1:n≤1114111):Lib.encodeRune n=tD [240+n/262144,128+n/4096%64,128+n/64%64,128+n%64]:=by
  unfold Lib.encodeRune;rw[Lib.encodeRuneZ_four h0 h1];rfl
theorem aFM {n:Int}(h:AF n):DH n=some (Lib.encodeRune n):=by
  obtain⟨h0,h1,hs⟩:=h;have w1:IntKind.i64.wrap (n/64)=n/64:=by rw[aT9];omega
  have w2:IntKind.i64.wrap (n/4096)=n/4096:=by rw[aT9];omega
  have w3:IntKind.i64.wrap (n/262144)=n/262144:=by rw[aT9];omega
  have m1:Int.tmod n 64=n%64:=aUi h0;have m2:Int.tmod (n/64) 64=n/64%64:=aUi pQ;have m3:Int.tmod (n/4096) 64=n/4096%64:=aUi pQ;unfold DH;simp only[Int.tdiv_eq_ediv_of_nonneg h0,w1,w2,w3,m1,m2,m3,aUp];by_cases c1:n<128
  .rw[aSn (by simpa using c1),XQ h0 pQ,show n%256=n by omega]
  rw[aSo (by simpa using c1)]
  by_cases c2:n<2048
  .rw[aSn (by simpa using c2),aSn (by unfold qP;omega),aSn (by unfold qP;omega),XR pQ pQ,show (192+n/64) %256=192+n/64 by omega,show (128+n%64) %256=128+n%64 by omega]
  rw[aSo (by simpa using c2)]
  by_cases c3:n<65536
  .rw[aSn (by simpa using c3),aSn (by unfold qP;omega),aSn (by unfold qP;omega),aSn (by unfold qP;omega),a7G pQ,show (224+n/4096) %256=224+n/4096 by omega,show (128+n/64%64) %256=128+n/64%64 by omega,show (128+n%64) %256=128+n%64 by omega]
  rw[aSo (by simpa using c3),aSn (by unfold qP;omega),aSn (by unfold qP;omega),aSn (by unfold qP;omega),aSn (by unfold qP;omega),aFL pQ pQ,show (240+n/262144) %256=240+n/262144 by omega,show (128+n/4096%64) %256=128+n/4096%64 by omega,show (128+n/64%64) %256=128+n/64%64 by omega,show (128+n%64) %256=128+n%64 by omega]
theorem a7H {n:Int}{k:Int}{j:Nat}(hj:k.toNat=j) (h32:j≤32):y9 .i32 n k=n/2^j:=by
  unfold y9;rw[hj,show min j IntKind.i32.bits=j from Nat.min_eq_left h32,Int.fdiv_eq_ediv_of_nonneg];exact Int.pow_nonneg pR
theorem aNj {n:Int}(p:pW) (h:AF n) (hp:sO p):JF p n=some (p++Lib.encodeRuneZ n):=by
  obtain⟨h0,h1,hs⟩:=h;unfold sO at hp;have u:IntKind.u32.wrap n=n:=by rw[IntKind.wrap_u32];omega
  have s6:y9 .i32 n 6=n/64:=a7H (j:=6) rfl pR;have s12:y9 .i32 n 12=n/4096:=a7H (j:=12) rfl pR;have s18:y9 .i32 n 18=n/262144:=a7H (j:=18) rfl pR
  have b0:bits .or .u8 128 (bits .and .u8 (n%256) 63)=128+n%64:=by
    rw[u8_and63 (x:=n%256) pQ pQ,show n%256%64=n%64 by omega,u8_or128 (y:=n%64) pQ pQ]
  have b1:bits .or .u8 128 (bits .and .u8 (n/64%256) 63)=128+n/64%64:=by
    rw[u8_and63 (x:=n/64%256) pQ pQ,show n/64%256%64=n/64%64 by omega,u8_or128 (y:=n/64%64) pQ pQ]
  have b2:bits .or .u8 128 (bits .and .u8 (n/4096%256) 63)=128+n/4096%64:=by
    rw[u8_and63 (x:=n/4096%256) pQ pQ,show n/4096%256%64=n/4096%64 by omega,u8_or128 (y:=n/4096%64) pQ pQ]
  unfold JF;rw[u];by_cases c1:n≤127
  .rw[aSn (by simpa using c1),aSn pT,Lib.encodeRuneZ_one h0 c1,aUp,show n%256=n by omega]
  rw[aSo (by simpa using c1)]
  unfold LS;simp only[u,s6,s12,s18,aUp,b0,b1,b2];by_cases c2:n≤2047
  · rw[aSn (by simpa using c2),aSn pT,Lib.encodeRuneZ_two pQ c2,show n/64%256=n/64 by omega,u8_or192 (y:=n/64) pQ pQ]
    rfl
  rw[aSo (by simpa using c2)]
  by_cases c3:n≤65535
  · have hx:(if decide (n<55296)=true then some (decide (n<55296)) else some ((decide (57343<n))&&(decide (n≤65535))))=some true:=by
      by_cases c:n<55296
      .rw[aSn (by simpa using c)];simp [c]
      rw[aSo (by simpa using c)];simp;omega
    rw[hx];simp only[uA,aSq];rw[aSn trivial,aSn pT,Lib.encodeRuneZ_three pQ,show n/4096%256=n/4096 by omega,u8_or224 (y:=n/4096) pQ pQ];rfl
  have hx:(if decide (n<55296)=true then some (decide (n<55296)) else some ((decide (57343<n))&&(decide (n≤65535))))=some false:=by
    rw[aSo pT];simp;omega
  rw[hx];simp only[uA,aSq];rw[aSo pR,aSn pT,aSn pT,Lib.encodeRuneZ_four pQ h1,show n/262144%256=n/262144 by omega,u8_or240 (y:=n/262144) pQ pQ];rfl
theorem aFN (n:Int):(Lib.encodeRuneZ n).length≤4:=by
  unfold Lib.encodeRuneZ
  repeat' split
  all_goals simp
theorem aFO {n:Int}(p:pW) (h:AF n) (hp:sO p): ∃k,FP (p,()) n=some (k,p++Lib.encodeRuneZ n):=by
  have h4:=aFN n;unfold sO at hp;unfold FP;rw[aNj p h hp];simp only[aSq];rw[aSn (by unfold qP;simp;omega)];exact⟨_,rfl⟩
theorem aNk (n:Int):RS [n] (0,[])=some (.inl (1,if y6 n=true then Lib.encodeRuneZ n else Lib.encodeRuneZ 65533)):=by
  unfold RS;have hn:qT (.int .i64) [n] 0=n:=rfl;dsimp only;rw[aSn pS,aSn ⟨aTq _,by simp⟩];simp only[hn];by_cases hs:y6 n=true
  · have hsc:=(JN n).1 hs
    obtain⟨k,hk⟩:=aFO (n:=n) [] hsc (by unfold sO;simp)
    have wn:IntKind.i32.wrap n=n:=by
      obtain⟨a,b,c⟩:=hsc;rw[IntKind.wrap_i32];omega
    rw[aSn hs];unfold y6 at hs;rw[aSo (by rw[hs];decide),wn,hk];simp only[aSq,List.nil_append];rw[aSn (by unfold qP;omega)];rfl
  rw[aSo hs]
  unfold y6 at hs;obtain⟨k,hk⟩:=aFO (n:=65533) [] (by unfold AF;omega) (by unfold sO;simp);rw[aSn (by simp only[aSR] at hs|-;simpa using hs),show IntKind.i32.wrap 65533=65533 from rfl,hk];simp only[aSq,List.nil_append];rw[aSn (by unfold qP;omega)];rfl
theorem aNl (n:Int):JK n=some (if y6 n=true then Lib.encodeRune n else Lib.encodeRune 65533):=by
  unfold JK OJ;rw[NP (aNk n),BV (r:=if y6 n=true then Lib.encodeRuneZ n else Lib.encodeRuneZ 65533) (by unfold RS;simp)];simp only[uA,aSq];by_cases hs:y6 n=true
  .rw[aSn hs,aSn hs];rfl
  rw[aSo hs,aSo hs];rfl
theorem aFP {l:pM}{i:Nat}(h:i<l.length):sH l (i:Int)=((l.getD i 0).toNat:Int):=by
  rw[OR h,aSO,aSv h];rfl
theorem aNm {s:pM}{x n:Int}{i:Nat}(h:i<s.length) (hn:(i:Int)<n) (hx:0≤x) (hx1:x≤1000000) (hi:i≤10):E9 s n (x,(i:Int))=
    if (s.getD i 0).toNat/64=2 then some (.inl (64*x+(s.getD i 0).toNat-128,((i+1:Nat):Int))) else some (.inr (.inr (65533,1))):=by
  have hb:=(s.getD i 0).toNat_lt;have hy:=aFP h;generalize (s.getD i 0).toNat=B at hb hy|-;unfold E9;dsimp only;rw[aSn (by simpa using hn),aSn (uV h),aSn (fun _=>uV h),hy];by_cases hc:B/64=2
  · rw[aSo pT,aSn hc,aSn (by unfold qP;omega),aSn (uV h),show IntKind.i64.wrap (B:Int)=(B:Int) by rw[aT9];omega,
      aSn (by unfold qP;omega),aSn (by unfold qP;omega),aSn (by unfold qP;omega)]
    rfl
  rw[aSn pT,aSo hc]
theorem a7I {s:pM}{x n i:Int}(h:n≤i):E9 s n (x,i)=some (.inr (.inl x)):=by
  unfold E9;dsimp only;rw[aSo (by simpa using h)]
def cont (s:pM) (i:Nat):Bool:=decide ((s.getD i 0).toNat/64=2)
def yJ (s:pM) (i:Nat) (x:Int):Int:=64*x+(s.getD i 0).toNat-128
theorem a7J {s:pM}{i:Nat}{x m:Int}(h0:0≤x) (hm:x≤m) (hc:cont s i=true):0≤yJ s i x∧yJ s i x≤64*m+63:=by
  have hb:=(s.getD i 0).toNat_lt;unfold cont at hc;unfold yJ;simp only[aSx] at hc;omega
theorem OS {s:pM}{x n:Int}{i:Nat}(h:i<s.length) (hn:(i:Int)<n) (hx:0≤x) (hx1:x≤1000000) (hi:i≤10):
    sC (E9 s n) (x,(i:Int))=if cont s i=true then sC (E9 s n) (yJ s i x,((i+1:Nat):Int)) else some (.inr (65533,1)):=by
  rw[uN,aNm h hn hx hx1 hi];unfold cont yJ;simp only[aSx];by_cases hc:(s.getD i 0).toNat/64=2
  .rw[aSn hc,aSn hc];rfl
  rw[aSo hc,aSo hc];rfl
theorem aNn {s:pM}{x:Int}(h:1<s.length) (hx:0≤x) (hx1:x≤31):sC (E9 s 2) (x,1)=some (if cont s 1=true then .inl (yJ s 1 x) else .inr (65533,1)):=by
  show sC _ (x,((1:Nat):Int))=_;rw[OS h pR hx pQ pR];by_cases c1:cont s 1=true
  .rw[aSn c1,aSn c1,BV (a7I pR)]
  rw[aSo c1,aSo c1]
theorem aNo {s:pM}{x:Int}(h:2<s.length) (hx:0≤x) (hx1:x≤15):sC (E9 s 3) (x,1)=some (if (cont s 1&&cont s 2)=true then .inl (yJ s 2 (yJ s 1 x)) else .inr (65533,1)):=by
  show sC _ (x,((1:Nat):Int))=_;rw[OS pQ pR hx pQ pR];by_cases c1:cont s 1=true
  · have b1:=a7J hx hx1 c1
    rw[aSn c1,OS h pR b1.1 pQ pR,c1,Bool.true_and];by_cases c2:cont s 2=true
    .rw[aSn c2,aSn c2,BV (a7I pR)]
    rw[aSo c2,aSo c2]
  rw[aSo c1,aSo (by simp [c1])]
theorem aNp {s:pM}{x:Int}(h:3<s.length) (hx:0≤x) (hx1:x≤7):sC (E9 s 4) (x,1)=some (if (cont s 1&&cont s 2&&cont s 3)=true then .inl (yJ s 3 (yJ s 2 (yJ s 1 x))) else .inr (65533,1)):=by
  show sC _ (x,((1:Nat):Int))=_;rw[OS pQ pR hx pQ pR];by_cases c1:cont s 1=true
  · have b1:=a7J hx hx1 c1
    rw[aSn c1,OS pQ pR b1.1 pQ pR,c1,Bool.true_and];by_cases c2:cont s 2=true
    · have b2:=a7J b1.1 b1.2 c2
      rw[aSn c2,OS h pR b2.1 pQ pR,c2,Bool.true_and];by_cases c3:cont s 3=true
      .rw[aSn c3,aSn c3,BV (a7I pR)]
      rw[aSo c3,aSo c3]
    rw[aSo c2,aSo (by simp [c2])]
  rw[aSo c1,aSo (by simp [c1])]
def fin (s:pM) (x:Int) (n:Nat):Int×Int:=if y6 x=true∧Lib.encodeRune x=s.take n then(x,n) else(65533,1)
theorem a7K {s:pM}{x:Int}{n:Nat}(hn:n≤s.length):
    (if (((!(((decide ((0:Int)≤x))&&(decide (x≤(1114111:Int))))&&((decide (x<(55296:Int)))||(decide ((57343:Int)<x)))))==false)=true→((DH x)).isSome=true) then
    if (((!(((decide ((0:Int)≤x))&&(decide (x≤(1114111:Int))))&&((decide (x<(55296:Int)))||(decide ((57343:Int)<x)))))==false)=true→0≤(0:Int)∧(0:Int)≤(n:Int)∧(n:Int)≤(s.length:Int)) then
     if ((!(((decide ((0:Int)≤x))&&(decide (x≤(1114111:Int))))&&((decide (x<(55296:Int)))||(decide ((57343:Int)<x)))))||(!decide ((val (DH x))=(rV s (0:Int) (n:Int)))))=true then
      some (((65533:Int),(1:Int)))
     else
      some ((x,(n:Int)))
    else none
   else none)=some (fin s x n):=by
  rw[S0];simp only[show (((decide ((0:Int)≤x))&&(decide (x≤(1114111:Int))))&&((decide (x<(55296:Int)))||(decide ((57343:Int)<x))))=y6 x from rfl]
  unfold fin;by_cases hs:y6 x=true
  · have ho:=aFM ((JN x).1 hs)
    rw[aSn (fun _=>by rw[ho];rfl),aSn (fun _=>⟨aTq _,pQ,pQ⟩),ho,hs];by_cases he:Lib.encodeRune x=s.take n
    .rw[aSo (by simp [val,he]),aSn ⟨rfl,he⟩]
    rw[aSn (by simp [val,he]),aSo (fun h=>he h.2)]
  have hs':y6 x=false:=by simpa using hs
  rw[aSn (fun h=>by simp [hs'] at h),aSn (fun h=>by simp [hs'] at h),aSn (by simp [hs']),aSo (fun h=>hs h.1)]
theorem HS (z:Int) (l:pW) (x:UInt8) (h:z=(x.toNat:Int)):tD (z::l)=x::tD l:=by
  show UInt8.ofNat z.toNat::tD l=_;rw[h];simp
theorem a7L:tD []=[]:=rfl
theorem OT (l:pW):(tD l).length=l.length:=by simp [tD]
theorem aNq {s:pM}(hl:1<s.length) (h0:192≤(s.getD 0 0).toNat) (h0':(s.getD 0 0).toNat<224) (hc:cont s 1=true):
    fin s (yJ s 1 ((s.getD 0 0).toNat-192)) 2=(((Lib.decodeL s).1:Int),((Lib.decodeL s).2:Int)):=by
  unfold cont at hc;simp only[aSx] at hc;have k0:=(s.getD 0 0).toNat_lt;have k1:=(s.getD 1 0).toNat_lt
  have hd:Lib.decodeL s=if (s.getD 0 0).toNat%32*64+(s.getD 1 0).toNat%64≥128 then((s.getD 0 0).toNat%32*64+(s.getD 1 0).toNat%64,2) else(65533,1):=by
    rw[Lib.decodeL_N];unfold Lib.decodeN;rw[aSo pQ,aSn ⟨pQ,pQ,hc⟩]
  rw[hd];unfold fin yJ;rw[Lib.takeB s hl];have hx:y6 (64*((s.getD 0 0).toNat-192)+(s.getD 1 0).toNat-128)=true:=(JN _).2 (by unfold AF;omega);rw[hx];by_cases hv:(s.getD 0 0).toNat%32*64+(s.getD 1 0).toNat%64≥128
  · rw[aSn hv,aSn ⟨rfl,by
      rw[XR pQ pQ,HS _ _ (s.getD 0 0) pQ,HS _ _ (s.getD 1 0) pQ,a7L]⟩]
    exact Prod.ext (by show _=(((_:Nat)):Int);omega) rfl
  rw[aSo hv,aSo (fun h=>by
    have h2:=aSM List.length h.2;rw[XQ pQ pQ,OT] at h2;simp at h2)]
  rfl
theorem aNr {s:pM}(hl:2<s.length) (h0:224≤(s.getD 0 0).toNat) (h0':(s.getD 0 0).toNat<240) (hc:cont s 1=true) (hc2:cont s 2=true):
    fin s (yJ s 2 (yJ s 1 ((s.getD 0 0).toNat-224))) 3=(((Lib.decodeL s).1:Int),((Lib.decodeL s).2:Int)):=by
  unfold cont at hc hc2;simp only[aSx] at hc hc2;have k0:=(s.getD 0 0).toNat_lt;have k1:=(s.getD 1 0).toNat_lt;have k2:=(s.getD 2 0).toNat_lt;obtain⟨V,hV⟩: ∃V,(s.getD 0 0).toNat%16*4096+(s.getD 1 0).toNat%64*64+(s.getD 2 0).toNat%64=V:=⟨_,rfl⟩
  have hd:Lib.decodeL s=if V≥2048∧(V<55296∨(57344≤V∧V≤1114111)) then(V,3) else(65533,1):=by
    rw[Lib.decodeL_N];unfold Lib.decodeN;rw[aSo pQ,aSo pQ,aSn ⟨pQ,⟨pQ,hc⟩,pQ,hc2⟩,hV]
  rw[hd];unfold fin yJ;rw[Lib.takeC s hl];generalize hX:64*(64*(((s.getD 0 0).toNat:Int)-224)+(s.getD 1 0).toNat-128)+(s.getD 2 0).toNat-128=X;have hXV:X=(V:Int):=by omega
  by_cases hv:V≥2048∧(V<55296∨(57344≤V∧V≤1114111))
  · rw[aSn hv,aSn ⟨(JN _).2 (by unfold AF;omega),by
      rw[a7G pQ,HS _ _ (s.getD 0 0) pQ,HS _ _ (s.getD 1 0) pQ,HS _ _ (s.getD 2 0) pQ,a7L]⟩]
    exact Prod.ext hXV rfl
  rw[aSo hv,aSo (fun h=>by
    have hs:=(JN _).1 h.1;unfold AF at hs;have hlt:X<2048:=by omega
    have h2:=aSM List.length h.2;by_cases h7:X≤127
    .rw[XQ pQ h7,OT] at h2;simp at h2
    rw[XR pQ pQ,OT] at h2;simp at h2)]
  rfl
theorem aNs {s:pM}(hl:3<s.length) (h0:240≤(s.getD 0 0).toNat) (h0':(s.getD 0 0).toNat<248) (hc:cont s 1=true) (hc2:cont s 2=true) (hc3:cont s 3=true):
    fin s (yJ s 3 (yJ s 2 (yJ s 1 ((s.getD 0 0).toNat-240)))) 4=(((Lib.decodeL s).1:Int),((Lib.decodeL s).2:Int)):=by
  unfold cont at hc hc2 hc3;simp only[aSx] at hc hc2 hc3;have k0:=(s.getD 0 0).toNat_lt;have k1:=(s.getD 1 0).toNat_lt;have k2:=(s.getD 2 0).toNat_lt;have k3:=(s.getD 3 0).toNat_lt;obtain⟨V,hV⟩: ∃V,(s.getD 0 0).toNat%8*262144+(s.getD 1 0).toNat%64*4096+(s.getD 2 0).toNat%64*64+(s.getD 3 0).toNat%64=V:=⟨_,rfl⟩
  have hd:Lib.decodeL s=if V≥65536∧(V<55296∨(57344≤V∧V≤1114111)) then(V,4) else(65533,1):=by
    rw[Lib.decodeL_N];unfold Lib.decodeN;rw[aSo pQ,aSo pQ,aSo pQ,aSn ⟨pQ,⟨pQ,hc⟩,⟨pQ,hc2⟩,pQ,hc3⟩,hV]
  rw[hd];unfold fin yJ;rw[Lib.takeD s hl];generalize hX:64*(64*(64*(((s.getD 0 0).toNat:Int)-240)+(s.getD 1 0).toNat-128)+(s.getD 2 0).toNat-128)+(s.getD 3 0).toNat-128=X;have hXV:X=(V:Int):=by omega
  by_cases hv:V≥65536∧(V<55296∨(57344≤V∧V≤1114111))
  · rw[aSn hv,aSn ⟨(JN _).2 (by unfold AF;omega),by
      rw[aFL pQ pQ,HS _ _ (s.getD 0 0) pQ,HS _ _ (s.getD 1 0) pQ,HS _ _ (s.getD 2 0) pQ,HS _ _ (s.getD 3 0) pQ,a7L]⟩]
    exact Prod.ext hXV rfl
  rw[aSo hv,aSo (fun h=>by
    have hs:=(JN _).1 h.1;unfold AF at hs;have hlt:X<65536:=by omega
    have h2:=aSM List.length h.2;by_cases h7:X≤127
    .rw[XQ pQ h7,OT] at h2;simp at h2
    by_cases h8:X≤2047
    .rw[XR pQ pQ,OT] at h2;simp at h2
    rw[a7G pQ,OT] at h2;simp at h2)]
  rfl
theorem MD {s:pM}(h: ¬(s.getD 0 0).toNat<128) (h2: ¬((s.getD 0 0).toNat/32=6∧1<s.length∧cont s 1=true)) (h3: ¬((s.getD 0 0).toNat/16=14∧2<s.length∧(cont s 1&&cont s 2)=true))
    (h4: ¬((s.getD 0 0).toNat/8=30∧3<s.length∧(cont s 1&&cont s 2&&cont s 3)=true)):Lib.decodeL s=(65533,1):=by
  unfold cont at h2 h3 h4;simp only[aSA,aSx] at h2 h3 h4;rw[Lib.decodeL_N];unfold Lib.decodeN;rw[aSo h,aSo (fun⟨a,b,c⟩=>h2 ⟨a,b,c⟩),aSo (fun⟨a,⟨b,c⟩,d,e⟩=>h3 ⟨a,d,c,e⟩),aSo (fun⟨a,⟨b,c⟩,⟨d,e⟩,f,g⟩=>h4 ⟨a,f,⟨c,e⟩,g⟩)]
theorem aNt {s:pM}(hne:s≠[]):J5 s=some (((Lib.decodeL s).1:Int),((Lib.decodeL s).2:Int)):=by
  have hl:0<s.length:=aTm.2 hne;have hy:sH s 0=((s.getD 0 0).toNat:Int):=aFP (i:=0) hl;have k0:=(s.getD 0 0).toNat_lt;have hw:IntKind.i64.wrap ((s.getD 0 0).toNat:Int)=((s.getD 0 0).toNat:Int):=by rw[aT9];omega
  unfold J5;rw[aSn ⟨aTq _,pQ⟩,hy,hw];by_cases c1:(s.getD 0 0).toNat<128
  · rw[aSn (by simp only[aSx];omega)]
    rw[Lib.decodeL_N];unfold Lib.decodeN;rw[aSn c1];rfl
  rw[aSo (by simp only[aSx];omega)]
  by_cases c2:192≤(s.getD 0 0).toNat∧(s.getD 0 0).toNat<224
  · rw[aSn (by simp only[aSA,aSx];omega),aSn (by unfold qP;omega)]
    show (if decide ((s.length:Int)<2)=true then _ else _)=_;by_cases l2:1<s.length
    · rw[aSo (by simp only[aSx];omega),aNn l2 pQ pQ]
      by_cases hc:cont s 1=true
      · rw[aSn hc,←aNq l2 c2.1 c2.2 hc,←a7K (s:=s) (n:=2) pQ]
        rfl
      rw[aSo hc,MD c1 (fun h=>hc h.2.2) (fun h=>by omega) (fun h=>by omega)]
      rfl
    rw[aSn (by simp only[aSx];omega),MD c1 (fun h=>l2 h.2.1) (fun h=>by omega) (fun h=>by omega)]
    rfl
  rw[aSo (by simp only[aSA,aSx];omega)]
  by_cases c3:224≤(s.getD 0 0).toNat∧(s.getD 0 0).toNat<240
  · rw[aSn (by simp only[aSA,aSx];omega),aSn (by unfold qP;omega)]
    show (if decide ((s.length:Int)<3)=true then _ else _)=_;by_cases l2:2<s.length
    · rw[aSo (by simp only[aSx];omega),aNo l2 pQ pQ]
      by_cases hc:(cont s 1&&cont s 2)=true
      · have hc':=aSA _ _▸hc
        rw[aSn hc,←aNr l2 c3.1 c3.2 hc'.1 hc'.2,←a7K (s:=s) (n:=3) pQ];rfl
      rw[aSo hc,MD c1 (fun h=>by omega) (fun h=>hc h.2.2) (fun h=>by omega)]
      rfl
    rw[aSn (by simp only[aSx];omega),MD c1 (fun h=>by omega) (fun h=>l2 h.2.1) (fun h=>by omega)]
    rfl
  rw[aSo (by simp only[aSA,aSx];omega)]
  by_cases c4:240≤(s.getD 0 0).toNat∧(s.getD 0 0).toNat<248
  · rw[aSn (by simp only[aSA,aSx];omega),aSn (by unfold qP;omega)]
    show (if decide ((s.length:Int)<4)=true then _ else _)=_;by_cases l2:3<s.length
    · rw[aSo (by simp only[aSx];omega),aNp l2 pQ pQ]
      by_cases hc:(cont s 1&&cont s 2&&cont s 3)=true
      · have hc':=aSA _ _▸hc
        have hc'':=aSA _ _▸hc'.1;rw[aSn hc,←aNs l2 c4.1 c4.2 hc''.1 hc''.2 hc'.2,←a7K (s:=s) (n:=4) pQ];rfl
      rw[aSo hc,MD c1 (fun h=>by omega) (fun h=>by omega) (fun h=>hc h.2.2)]
      rfl
    rw[aSn (by simp only[aSx];omega),MD c1 (fun h=>by omega) (fun h=>by omega) (fun h=>l2 h.2.1)]
    rfl
  rw[aSo (by simp only[aSA,aSx];omega),MD c1 (fun h=>by omega) (fun h=>by omega) (fun h=>by omega)]
  rfl
def zH:Nat→pM→pW
  |0,_=>[]
  |n+1,s=>if s=[] then[] else((Lib.decodeL s).1:Int)::zH n (s.drop (Lib.decodeL s).2)
theorem aFQ: ∀(n:Nat) (s:pM),(zH n s).length≤n
  |0,_=>aSJ _
  | n+1,s=>by
    unfold zH;split
    .simp
    simp only[aSt]
    have:=aFQ n (s.drop (Lib.decodeL s).2);omega
theorem aNu (s:pM):AF ((Lib.decodeL s).1:Int):=by
  have k0:=(s.getD 0 0).toNat_lt;rw[Lib.decodeL_N];rcases Lib.decodeN_shape s.length (s.getD 0 0).toNat (s.getD 1 0).toNat (s.getD 2 0).toNat (s.getD 3 0).toNat with⟨c,e⟩ |⟨c1,c2,c3,cv,e⟩ |⟨c1,c2,c3,c4,cv,cs,e⟩ |⟨c1,c2,c3,c4,c5,cv,cw,e⟩ |e
  all_goals (rw[e];unfold AF;dsimp only;omega)
theorem aFR: ∀(n:Nat) (s:pM) (out:pW),s.length≤n→out.length+s.length≤4000000000→sC OE (s,out)=some (out++zH n s)
  | n,[],out,_,_=>by
    rw[BV (r:=out) (by unfold OE;simp)];cases n<;>simp [zH]
  |0,b::t,_,h,_=>by simp at h
  | n+1,b::t,out,h,ho=>by
    have hne:(b::t)≠[]:=by simp
    have hle:=Lib.decodeL_le (b::t) hne;have hw:=Lib.decodeL_width (b::t)
    have hstep:OE (b::t,out)=some (.inl ((b::t).drop (Lib.decodeL (b::t)).2,out++[((Lib.decodeL (b::t)).1:Int)])):=by
      unfold OE;dsimp only;rw[aSn pS,aNt hne];simp only[aSq];rw[aSn (by simp only[aSt,aSF] at ho|-;omega),aSn ⟨pQ,pQ,aTq _⟩,HR]
    rw[NP hstep,aFR n _ _ (by rw[aSW];simp only[aSt] at h hle|-;omega) (by rw[aSW,aSp];simp only[aSt,aSF] at ho hle|-;omega)];rw[show zH (n+1) (b::t)=((Lib.decodeL (b::t)).1:Int)::zH n ((b::t).drop (Lib.decodeL (b::t)).2) by rw[zH,aSo hne],aSB];rfl
def XS (s:pM):pW:=zH s.length s
theorem aNv (s:pM) (hs:sO s):JC s=some (XS s):=by
  unfold sO at hs;unfold JC;rw[aFR s.length s [] (aSJ _) (by simpa using hs)];rfl
theorem aFS: ∀(n:Nat) (s:pM),∀x∈zH n s,AF x
  |0,_,_,h=>by cases h
  | n+1,s,x,h=>by
    unfold zH at h;split at h
    .cases h
    rcases aSC.1 h with h|h
    .rw[h];exact aNu s
    exact aFS n _ x h
def JO (l:pW):pM:=(l.map Lib.encodeRune).flatten
theorem a7M (n:Int):(Lib.encodeRune n).length≤4:=by
  unfold Lib.encodeRune;rw[aTV];exact aFN n
theorem aFT (l:pW) (hsc: ∀x∈l,AF x) (hl:sO l): ∀(n j:Nat) (s:pM),j+n=l.length→s.length+4*n≤10000000000000→sC (OC l) (s,(j:Int))=some (s++JO (l.drop j))
  | 0,j,s,hj,_=>by
    have:j=l.length:=by omega
    subst this;rw[BV (r:=s) (by unfold OC;simp),aTs];simp [JO]
  | n+1,j,s,hj,hs=>by
    have hlt:j<l.length:=by omega
    unfold sO at hl;have hx:=hsc l[j] (aTB hlt);have h4:=a7M l[j]
    have hstep:OC l (s,(j:Int))=some (.inl (s++Lib.encodeRune l[j],((j+1:Nat):Int))):=by
      unfold OC;dsimp only;rw[aSn (wV hlt),aSn (uV hlt),OQ (t:= .int .i64) hlt];have hb:=(JN l[j]).2 hx;unfold y6 at hb;rw[aSn hb,aSn (uV hlt),aFM hx];simp only[aSq];rw[aSn (by rw[aSp];omega),aSn (yH pQ)];rfl
    rw[NP hstep,aFT l hsc hl n (j+1) _ pQ (by rw[aSp];omega),aS4 hlt,aSB];rfl
theorem aNw (l:pW) (hsc: ∀x∈l,AF x) (hl:sO l):LZ l=some (JO l):=by
  have hl':=hl;unfold sO at hl';unfold LZ;rw[show ((0:Int))=((0:Nat):Int) from rfl,aFT l hsc hl l.length 0 [] pQ pT];rfl
theorem aFU: ∀(n:Nat) (s:pM),s.length≤n→s.length≤(JO (zH n s)).length∧(JO (zH n s)=s↔Lib.validD s=true)
  | n,[],_=>by
    have:zH n []=[]:=by cases n<;>simp [zH]
    rw[this];simp [JO,Lib.validD_nil]
  |0,b::t,h=>by simp at h
  | n+1,b::t,h=>by
    have hne:(b::t)≠[]:=by simp
    have hle:=Lib.decodeL_le (b::t) hne;have hw:=Lib.decodeL_width (b::t);obtain⟨ih1,ih2⟩:=aFU n ((b::t).drop (Lib.decodeL (b::t)).2) (by rw[aSW];simp only[aSt] at h|-;omega)
    have hr:JO (zH (n+1) (b::t))=Lib.encodeRune ((Lib.decodeL (b::t)).1:Int)++JO (zH n ((b::t).drop (Lib.decodeL (b::t)).2)):=by
      rw[zH,aSo hne];rfl
    rw[hr,Lib.validD_step _ hne];rw[aSW] at ih1;by_cases hv:(Lib.decodeL (b::t)).1=65533∧(Lib.decodeL (b::t)).2=1
    · rw[aSn hv,hv.1]
      have e3:(Lib.encodeRune ((65533:Nat):Int)).length=3:=rfl;rw[hv.2] at ih1|-;refine⟨by rw[aSp,e3];omega,fun he=>?_,fun he=>by cases he⟩;have:=aSM List.length he;rw[aSp,e3] at this;omega
    have he:=Lib.encode_decode (b::t) hne hv
    rw[aSo hv,he];refine⟨by rw[aSp,aS0];omega,?_⟩;rw[←ih2];constructor
    · intro h1
      exact List.append_cancel_left (h1.trans (aTz _ _).symm)
    intro h1
    rw[h1,aTz]
theorem aNx (s:pM) (hs:sO s):yT s=some (Lib.validD s):=by
  have hl:sO (XS s):=by
    have:=aFQ s.length s;unfold sO XS at*;omega
  unfold yT;rw[aNv s hs];simp only[aSq];rw[aNw (XS s) (fun x hx=>aFS _ _ x hx) hl];simp only[aSq];congr 1;have:=(aFU s.length s (aSJ _)).2;rw[aUf,aSx];exact this
def sK (s:pM):Bool:=decide ((s.length:Int)≤4000)&&Lib.validD s
theorem aNy (s:pM) (hs:sO s):EI s=some ()∧((decide ((s.length:Int)≤4000))&&val (yT s))=sK s:=by
  unfold EI;rw[aNx s hs];exact⟨aSn (fun _=>rfl),rfl⟩
theorem ME (s:pM) (hs:sO s):DI s=some ():=by
  unfold sO at hs;unfold DI R8;rw[aSn (fun _=>by rw[aSn pQ];rfl)]
theorem aNz (a b:pM):(!Op.bytesLess a b)=(Op.bytesLess b a||decide (b=a)):=by
  rw[bytesLess_eq,bytesLess_eq,aUf];simp only[aSR,aS2,aTN,aSx];constructor
  · intro h
    exact(List.le_iff_lt_or_eq.1 (List.not_lt.1 h))
  rintro(h|h)
  .exact List.lt_asymm h
  rw[h];exact List.lt_irrefl _
def wM (l:pN):Bool:=decide ((l.length:Int)≤20)&& !(l.any fun x=> !sK x)
def XT (l:pN) (i:Nat):Bool:=(!w9 (l.getD i []))||(decide (0<i)&& !Op.bytesLess (l.getD (i-1) []) (l.getD i []))
def FR (l:pN):Bool:= !((List.range l.length).any (XT l))&&decide ((l.length:Int)≤20)
abbrev fD:sX:=([],([],()))
def XU (l:List sX) (i:Nat):Bool:=((!w9 (l.getD i fD).1)||(!sK (l.getD i fD).2.1))||(decide (0<i)&& !Op.bytesLess (l.getD (i-1) fD).1 (l.getD i fD).1)
def wA (l:List sX):Bool:= !((List.range l.length).any (XU l))&&decide ((l.length:Int)≤20)
abbrev vM:=t7
def BD (x:vM):Bool:=
  (((((((!decide (x.1=[]))&&decide ((x.1.length:Int)≤200))&&sK x.1)&&sK x.2.1)&&sK x.2.2.1)&&wM x.2.2.2.1)&&FR x.2.2.2.2.1)&&(decide (0≤x.2.2.2.2.2.1)&&decide (x.2.2.2.2.2.1≤4))&&wA x.2.2.2.2.2.2.1
theorem sib (l:pM) (b:UInt8):vJ l (b.toNat:Int)=Lib.indexByte l b:=by
  unfold vJ;rw[aTi];congr 1;simp
def tR (d:UInt8):pM→pZ
  |[]=>none
  |[b]=>if b=d then some 0 else none
  |b::c::t=>if b=d then some 0 else if b=92 then(tR d t).map (· +2) else(tR d (c::t)).map (· +1)
def MF:pZ→Int
  |some k=>k
  |none=> -1
theorem XV {d:UInt8}:tR d []=none:=by unfold tR;rfl
theorem XW {d b:UInt8}{t:pM}(h:b=d):tR d (b::t)=some 0:=by
  subst h;cases t<;>(unfold tR;simp)
theorem XX {d b:UInt8}{t:pM}(h:b≠d) (hb:b=92):tR d (b::t)=(tR d (t.drop 1)).map (· +2):=by
  cases t with
  |nil=>unfold tR;rw[aSo h];simp [tR]
  |cons c t=>rw[tR,aSo h,aSn hb];rfl
theorem XY {d b:UInt8}{t:pM}(h:b≠d) (hb:b≠92):tR d (b::t)=(tR d t).map (· +1):=by
  cases t with
  |nil=>unfold tR;rw[aSo h];simp [tR]
  |cons c t=>rw[tR,aSo h,aSo hb]
theorem XZ {d:UInt8}: ∀(n:Nat) (l:pM) (k:Nat),l.length≤n→tR d l=some k→k<l.length
  |_,[],_,_,h=>by rw[XV] at h;cases h
  |0,_::_,_,hn,_=>by simp at hn
  | n+1,b::t,k,hn,h=>by
    simp only[aSt] at hn|-;by_cases h1:b=d
    .rw[XW h1] at h;cases h;omega
    by_cases h2:b=92
    · rw[XX h1 h2] at h
      cases h3:tR d (t.drop 1) with
      |none=>rw[h3] at h;cases h
      | some j=>
        rw[h3] at h;obtain rfl:j+2=k:=aSr h;have:=XZ n (t.drop 1) j (by rw[aSW];omega) h3;rw[aSW] at this;omega
    rw[XY h1 h2] at h
    cases h3:tR d t with
    |none=>rw[h3] at h;cases h
    | some j=>
      rw[h3] at h;obtain rfl:j+1=k:=aSr h;have:=XZ n t j pQ h3;omega
theorem a7N {a b:UInt8}:((a.toNat:Int)=(b.toNat:Int))↔a=b:=by
  rw[Int.ofNat_inj];exact UInt8.toNat_inj
theorem a7O (n:Int) (hn:n≠4) (s:pM) (d:UInt8) (hs:sO s): ∀(k i:Nat),s.length+1≤i+k→sC (LO n s (d.toNat:Int)) (i:Int)=some (zG (fun k=> .inr ((i+k:Nat):Int)) (.inl ()) (tR d (s.drop i)))
  | 0,i,h=>by
    rw[List.drop_eq_nil_of_le pQ,XV,BV (r:= .inl ()) (by unfold LO;rw[aSo pT])];rfl
  | k+1,i,h=>by
    by_cases hlt:i<s.length
    · have hs':=hs
      unfold sO at hs'
      have hstep:LO n s (d.toNat:Int) (i:Int)=if s[i]=d then some (.inr (.inr (i:Int))) else if s[i]=92 then some (.inl ((i+2:Nat):Int)) else some (.inl ((i+1:Nat):Int)):=by
        unfold LO;rw[aSn (wV hlt),aSn (uV hlt),OR hlt];by_cases h1:s[i]=d
        .rw[aSn (by simp [h1]),aSn h1]
        rw[aSo (by simpa[a7N] using h1),aSo h1,aSn (fun _=>uV hlt)]
        have h92:((92:Int))=((92:UInt8).toNat:Int):=rfl;by_cases h2:s[i]=92
        · rw[aSn (by rw[h2];simp [hn]),aSn h2,aSn (yH pQ),aSn (by unfold qP;omega)]
          congr 3
        rw[aSo (fun h=>by
          simp only[aSA,aSx] at h;exact h2 (a7N.1 (h.2.trans h92))),aSo h2,aSn (yH pQ)]
        rfl
      rw[uN,hstep,aS4 hlt];by_cases h1:s[i]=d
      .rw[aSn h1,XW h1];rfl
      rw[aSo h1]
      by_cases h2:s[i]=92
      · rw[aSn h2,XX h1 h2]
        show sC _ ((i+2:Nat):Int)=_;rw[a7O n hn s d hs k (i+2) pQ,aUw];cases tR d (s.drop (i+2)) with
        |none=>rfl
        | some j=>
          show some (Sum.inr ((i+2+j:Nat):Int))=some (Sum.inr ((i+(j+2):Nat):Int));rw[show i+2+j=i+(j+2) by omega]
      rw[aSo h2,XY h1 h2]
      show sC _ ((i+1:Nat):Int)=_;rw[a7O n hn s d hs k (i+1) pQ];cases tR d (s.drop (i+1)) with
      |none=>rfl
      | some j=>
        show some (Sum.inr ((i+1+j:Nat):Int))=some (Sum.inr ((i+(j+1):Nat):Int));rw[show i+1+j=i+(j+1) by omega]
    rw[List.drop_eq_nil_of_le pQ,XV,BV (r:= .inl ()) (by unfold LO;rw[aSo pT])]
    rfl
theorem aNA {n:Int}(h1:1≤n) (h3:n≤3) (s:pM) (d:UInt8) (hs:sO s):LP n s (d.toNat:Int)=some (MF (tR d s)):=by
  unfold LP;have h:=a7O n pQ s d hs (s.length+1) 0 pQ;rw[aSo pT,show ((0:Int))=((0:Nat):Int) from rfl,h,aTG];cases tR d s with
  |none=>rfl
  | some k=>
    show some (((0+k:Nat)):Int)=some (k:Int);rw[aSU]
def HT (c base:Int):Int:=
  let n:=if 48≤c∧c≤57 then c-48 else if 97≤c∧c≤102 then c-87 else if 65≤c∧c≤70 then c-55 else-1
  if base≤n then-1 else n
def Y0:pM:=[48,49,50,51,52,53,54,55,56,57,97,98,99,100,101,102]
theorem aNB: ∀n:Fin 256,Lib.indexByte Y0 (UInt8.ofNat n)=if 48≤(n.val:Int)∧(n.val:Int)≤57 then(n.val:Int)-48 else if 97≤(n.val:Int)∧(n.val:Int)≤102 then(n.val:Int)-87 else-1:=by decide
theorem aNC (b:UInt8):Lib.indexByte Y0 b=if 48≤(b.toNat:Int)∧(b.toNat:Int)≤57 then(b.toNat:Int)-48 else if 97≤(b.toNat:Int)∧(b.toNat:Int)≤102 then(b.toNat:Int)-87 else-1:=by
  have:=aNB ⟨b.toNat,b.toNat_lt⟩;simpa using this
def EQ (base:Int):Int→pM→Option Int
  |acc,[]=>some acc
  |acc,b::t=>if HT b.toNat base<0 then none else EQ base (base*acc+HT b.toNat base) t
theorem aND {c base:Int}(hb:0<base): -1≤HT c base∧HT c base<base:=by
  unfold HT;dsimp only
  repeat' split
  all_goals omega
theorem aFW (s:pM) (base:Int) (hb:0<base) (hb16:base≤16) (hs:s.length≤8): ∀(k j:Nat) (acc:Int),j+k=s.length→0≤acc→acc<16^j→
    sC (O6 s base) (acc,(j:Int))=some (match EQ base acc (s.drop j) with|some n=> .inl n|none=> .inr (0,false))
  | 0,j,acc,hj,_,_=>by
    have:j=s.length:=by omega
    subst this;rw[aTs,BV (r:= .inl acc) (by unfold O6;simp)];rfl
  | k+1,j,acc,hj,h0,h1=>by
    have hlt:j<s.length:=by omega
    have hc:=s[j].toNat_lt;have hd:=aND (c:=(s[j].toNat:Int)) hb
    have hp:(16:Int) ^j≤16^8:=by
      have:(16:Nat) ^j≤16^8:=Nat.pow_le_pow_right pR pQ
      exact_mod_cast this
    have h8:(16:Int) ^8=4294967296:=by decide
    have hm:acc*base≤acc*16:=Int.mul_le_mul_of_nonneg_left hb16 h0;have hm0:0≤acc*base:=Int.mul_nonneg h0 pQ;have hcm:acc*base=base*acc:=Int.mul_comm _ _
    have hstep:O6 s base (acc,(j:Int))=if HT s[j].toNat base<0 then some (.inr (.inr (0,false))) else some (.inl (base*acc+HT s[j].toNat base,((j+1:Nat):Int))):=by
      unfold O6;dsimp only;rw[aSn (wV hlt),aSn (uV hlt),aSn (uV hlt),aSn (fun _=>uV hlt),OR hlt,aSn (uV hlt),sib];have hidx:=aNC s[j]
      have hval:(if ((decide ((65:Int)≤(s[j].toNat:Int)))&&(decide ((s[j].toNat:Int)≤(70:Int))))=true then(if qP ((IntKind.wrap .i64 (IntKind.wrap .u8 ((s[j].toNat:Int)- (65:Int))))+(10:Int)) then some (((IntKind.wrap .i64 (IntKind.wrap .u8 ((s[j].toNat:Int)- (65:Int))))+(10:Int))) else none) else some (Lib.indexByte Y0 s[j]))=some (if 48≤(s[j].toNat:Int)∧(s[j].toNat:Int)≤57 then(s[j].toNat:Int)-48 else if 97≤(s[j].toNat:Int)∧(s[j].toNat:Int)≤102 then(s[j].toNat:Int)-87 else if 65≤(s[j].toNat:Int)∧(s[j].toNat:Int)≤70 then(s[j].toNat:Int)-55 else-1):=by
        by_cases c:65≤(s[j].toNat:Int)∧(s[j].toNat:Int)≤70
        · rw[aSn (by simpa using c),show IntKind.i64.wrap (IntKind.u8.wrap ((s[j].toNat:Int)-65))=(s[j].toNat:Int)-65 by rw[aUp,aT9];omega,aSn (by unfold qP;omega),aSo pQ,aSo pQ,aSn c]
          congr 1;omega
        rw[aSo (by simpa using c),hidx,aSo c]
      unfold uA;rw[show ([48,49,50,51,52,53,54,55,56,57,97,98,99,100,101,102]:pM)=Y0 from rfl,hval];simp only[aSq];unfold HT;dsimp only;generalize (if 48≤(s[j].toNat:Int)∧(s[j].toNat:Int)≤57 then(s[j].toNat:Int)-48 else if 97≤(s[j].toNat:Int)∧(s[j].toNat:Int)≤102 then(s[j].toNat:Int)-87 else if 65≤(s[j].toNat:Int)∧(s[j].toNat:Int)≤70 then(s[j].toNat:Int)-55 else-1)=D;by_cases hn:D<0∨base≤D
      · rw[aSn (by simpa using hn)]
        by_cases hbD:base≤D
        .rw[aSn hbD,aSn pR]
        rw[aSo hbD,aSn pQ]
      rw[aSo (by simpa using hn)]
      have hbD: ¬base≤D:=fun h=>hn (.inr h);have hD0: ¬D<0:=fun h=>hn (.inl h);rw[aSo hbD,aSo hD0,aSn (by unfold qP;omega),aSn (by unfold qP;omega),aSn (yH pQ),hcm];rfl
    rw[uN,hstep,aS4 hlt,EQ];by_cases hn:HT s[j].toNat base<0
    .rw[aSn hn,aSn hn];rfl
    rw[aSo hn,aSo hn]
    show sC _ (_,((j+1:Nat):Int))=_;exact aFW s base hb hb16 hs k (j+1) _ pQ pQ (by rw[Int.pow_succ];omega)
theorem aFX (s:pM) (base:Int) (hb:0<base) (hb16:base≤16) (hs:s.length≤8):FJ s base=some (match EQ base 0 s with|some n=>(n,!decide (s=[])) |none=>(0,false)):=by
  unfold FJ;rw[show ((0:Int),(0:Int))=((0:Int),((0:Nat):Int)) from rfl,aFW s base hb hb16 hs s.length 0 0 pQ pQ pR,aTG];cases h:EQ base 0 s with
  |none=>rfl
  |some n=>rfl
theorem a7P {base:Int}(hb:0<base): ∀{s:pM}{acc n:Int},0≤acc→EQ base acc s=some n→0≤n
  |[],acc,n,h0,h=>by cases h;exact h0
  | b::t,acc,n,h0,h=>by
    rw[EQ] at h;split at h
    .cases h
    exact a7P hb (by have:=Int.mul_nonneg (Int.le_of_lt hb) h0;omega) h
def S1:pM:=[92,34,61,58,35,33,123,125,32]
def JP (l:pM) (k:Nat) (ok:Int→Bool) (f:Int→pM):pM×Nat:=
  match EQ 16 0 l with
  |some n=>if ok n=true then(f n,k) else([],0)
  |none=>([],0)
def yU (l:pM):pM×Nat:=
  match l with
  | _::c::t=>
    if c=110 then([10],2) else if c=114 then([13],2) else if c=116 then([9],2)
    else if S1.contains c=true then([c],2)
    else if c=120∧2≤t.length then JP (t.take 2) 4 (fun n=>decide (n≤127)) (fun n=>tD [n])
    else if c=117∧4≤t.length then JP (t.take 4) 6 y6 Lib.encodeRune
    else([],0)
  |_=>([],0)
theorem D3 {a:UInt8}{n:Int}(b:UInt8) (hb:n=(b.toNat:Int)):decide ((a.toNat:Int)=n)=decide (a=b):=by
  rw[hb];simp only[a7N]
theorem aNE (a c:UInt8) (t:pM):rV (a::c::t) 2 4=t.take 2:=rfl
theorem aNF (a c:UInt8) (t:pM):rV (a::c::t) 2 6=t.take 4:=rfl
theorem aNG (a c:UInt8) (t:pM):rV (a::c::t) 1 2=[c]:=rfl
theorem aNH (a:UInt8) (t:pM):HL (a::t)=some ((yU (a::t)).1,((yU (a::t)).2:Int)):=by
  cases t with
  |nil=>unfold HL;rw[aSn pS];rfl
  | cons c t=>
    have hy:sH (a::c::t) (1:Int)=(c.toNat:Int):=OR (i:=1) pS;have hlen:((a::c::t).length:Int)=(t.length:Int)+2:=by simp;omega
    unfold HL;rw[aSo pT,aSn (⟨pR,by simp;omega⟩),hy,D3 (n:=110) 110 rfl,D3 (n:=114) 114 rfl,D3 (n:=116) 116 rfl,D3 (n:=120) 120 rfl,D3 (n:=117) 117 rfl,sib,aNE,aNF,aNG,hlen,←Lib.contains_iff_indexByte];show _=some ((if c=110 then(([10],2):pM×Nat) else _).1,((if c=110 then(([10],2):pM×Nat) else _).2:Int));by_cases h1:c=110
    .rw[aSn (by simpa using h1),aSn h1];rfl
    rw[aSo (by simpa using h1),aSo h1];by_cases h2:c=114
    .rw[aSn (by simpa using h2),aSn h2];rfl
    rw[aSo (by simpa using h2),aSo h2];by_cases h3:c=116
    .rw[aSn (by simpa using h3),aSn h3];rfl
    rw[aSo (by simpa using h3),aSo h3];by_cases hx:c=120
    · subst hx
      rw[aSn (show decide ((120:UInt8)=120)=true from rfl),aSo (show¬S1.contains 120=true by decide)];by_cases h5:2≤t.length
      · rw[aSn pT,aSn ⟨pR,pR,pQ⟩,aSn (show _∧_ from⟨rfl,h5⟩),aFX _ 16 pR pR (by rw[aS0];omega),aSq]
        unfold JP;cases hn:EQ 16 0 (t.take 2) with
        |none=>rfl
        | some n=>
          have h0:=a7P pR (aTq 0) hn;have hne:t.take 2≠[]:=by intro h;have:=aSM List.length h;rw[aS0,aSF] at this;omega
          simp only[hne,decide_false,Bool.not_false,Bool.true_and];by_cases h7:n≤127
          .rw[aSn (by simpa using h7),aSn (by simpa using h7),aUp,show n%256=n by omega];rfl
          rw[aSo (by simpa using h7),aSo (by simpa using h7)];rfl
      rw[aSo pT,aSo (fun h=>h5 h.2),aSo (show¬((120:UInt8)=117∧4≤t.length) from fun h=>by cases h.1)]
      rfl
    rw[aSo (by simpa using hx)];by_cases hu:c=117
    · subst hu
      rw[aSn (show decide ((117:UInt8)=117)=true from rfl),aSo (show¬S1.contains 117=true by decide),aSo (show¬((117:UInt8)=120∧2≤t.length) from fun h=>by cases h.1)];by_cases h5:4≤t.length
      · rw[aSn pT,aSn ⟨pR,pR,pQ⟩,aSn (show _∧_ from⟨rfl,h5⟩),aFX _ 16 pR pR (by rw[aS0];omega),aSq]
        unfold JP;cases hn:EQ 16 0 (t.take 4) with
        |none=>rfl
        | some n=>
          have h0:=a7P pR (aTq 0) hn;have hne:t.take 4≠[]:=by intro h;have:=aSM List.length h;rw[aS0,aSF] at this;omega
          simp only[hne,decide_false,Bool.not_false];rw[aSn trivial,aNl,aSq]
          have hb:y6 n=(decide (n≤1114111)&&(decide (n<55296)||decide (57343<n))):=by
            unfold y6;rw[show decide ((0:Int)≤n)=true by simpa using h0,Bool.true_and]
          rw[←hb];by_cases h7:y6 n=true
          .rw[aSn h7,aSn h7,aSn h7];rfl
          rw[aSo h7,aSo h7];rfl
      rw[aSo pT,aSo (fun h=>h5 h.2)]
      rfl
    rw[aSo (by simpa using hu)];show (if S1.contains c=true then _ else _)=_;by_cases h4:S1.contains c=true
    .rw[aSn h4,aSn h4,aSn ⟨pR,pR,pQ⟩];rfl
    rw[aSo h4,aSo h4,aSo (fun h=>hx h.1),aSo (fun h=>hu h.1)]
    rfl
def HU (n:Int) (b:UInt8):Bool:=decide (b=10)||((decide (n=2)||decide (n=3))&&decide (b=34))
def uW (n:Int):pM→pM×Nat
  |[]=>([],0)
  |b::t=>if b=92 then yU (b::t) else if HU n b=true then([b],0) else([b],1)
theorem Y1 {l:pM}{k:Nat}{ok:Int→Bool}{f:Int→pM}(hf: ∀n,(f n).length≤4):(JP l k ok f).1.length≤4∧((JP l k ok f).2=0∨(JP l k ok f).2=k):=by
  unfold JP;cases EQ 16 0 l with
  |none=>exact⟨by simp,.inl rfl⟩
  | some n=>
    dsimp only;split
    .exact⟨hf n,.inr rfl⟩
    exact⟨by simp,.inl rfl⟩
theorem aNI (l:pM):(yU l).1.length≤4∧(yU l).2≤l.length:=by
  unfold yU;split
  · rename_i a c t
    have h1:=Y1 (l:=t.take 2) (k:=4) (ok:=fun n=>decide (n≤127)) (f:=fun n=>tD [n]) (fun n=>by simp [tD]);have h2:=Y1 (l:=t.take 4) (k:=6) (ok:=y6) (f:=Lib.encodeRune) a7M
    repeat' split
    all_goals first
      |exact⟨by simp,by simp⟩
      |(rename_i h;exact⟨h1.1,by rcases h1.2 with e|e<;>rw[e]<;>simp<;>omega⟩)
      |(rename_i h;exact⟨h2.1,by rcases h2.2 with e|e<;>rw[e]<;>simp<;>omega⟩)
  exact⟨by simp,by simp⟩
theorem S2 {n:Int}{b:UInt8}{t:pM}(h:b=92):uW n (b::t)=yU (b::t):=aSn h
theorem S3 {n:Int}{b:UInt8}{t:pM}(h:b≠92) (hb:HU n b=true):uW n (b::t)=([b],0):=(aSo h).trans (aSn hb)
theorem S4 {n:Int}{b:UInt8}{t:pM}(h:b≠92) (hb: ¬HU n b=true):uW n (b::t)=([b],1):=(aSo h).trans (aSo hb)
theorem a7Q (n:Int) (l:pM):(uW n l).1.length≤4∧(uW n l).2≤l.length:=by
  cases l with
  |nil=>exact⟨by simp [uW],by simp [uW]⟩
  | cons b t=>
    by_cases h:b=92
    .rw[S2 h];exact aNI _
    by_cases hb:HU n b=true
    .rw[S3 h hb];exact⟨by simp,by simp⟩
    rw[S4 h hb];exact⟨by simp,by simp⟩
def BE (n:Int):Nat→pM→pM⊕Nat
  |0,_=> .inl []
  |_+1,[]=> .inl []
  | k+1,b::t=>if (uW n (b::t)).2=0 then .inr 0 else match BE n k ((b::t).drop (uW n (b::t)).2) with
    | .inl r=> .inl ((uW n (b::t)).1++r)
    | .inr e=> .inr ((uW n (b::t)).2+e)
def wN (n:Int) (s:pM):pM×Int×Int:=match BE n s.length s with
  | .inl r=>(r,0,0)
  | .inr e=>([],e,3)
theorem aFY (a b:pM):uP (a++b)=uP a++uP b:=by simp [uP]
theorem aFZ (a:pM):tD (uP a)=a:=by
  unfold tD uP;rw[List.map_map]
  conv=>rhs;rw[←List.map_id a]
  congr 1;funext b;simp
theorem aNJ {n:Int}(h1:1≤n) (h3:n≤3) (b:UInt8):LQ n (b.toNat:Int)=HU n b:=by
  unfold LQ HU AT;rw[D3 (n:=10) 10 rfl,D3 (n:=34) 34 rfl];by_cases c1:n=1
  .subst c1;simp
  have h23:n=2∨n=3:=by omega
  rcases h23 with rfl|rfl<;>simp
theorem aNK {x:pW}{c:Int}(hx:x.length≤10000000000000):LR (x,()) c=some ():=by
  unfold LR;exact aSn (by simp only[aTr,aUd];omega)
theorem aNL {x:pW}{t:pM}(hx:x.length≤10000000000000) (ht:t.length≤4000000000):FH (x,()) t=some ():=by
  unfold FH;exact aSn (by dsimp only;omega)
theorem aNM {n:Int}(h1:1≤n) (h3:n≤3) {s:pM}(hs:sO s) {x:pW}{i:Nat}(hi:i<s.length) (hx:x.length≤10000000000000):
    OL n s ((i:Int),x)=if (uW n (s.drop i)).2=0 then some (.inr (.inr ([],(i:Int),3))) else some (.inl (((i+(uW n (s.drop i)).2:Nat):Int),x++uP (uW n (s.drop i)).1)):=by
  have hs':=hs;unfold sO at hs';have hp:=a7Q n (s.drop i);rw[aSW] at hp;unfold OL;dsimp only;rw[aSn (wV hi),aSn (uV hi),OR hi,HR,D3 (n:=92) 92 rfl,aNJ h1 h3];rw[aS4 hi] at hp|-;by_cases c1:s[i]=92
  · rw[S2 c1] at hp|-
    rw[aSn (by simpa using c1),aSn ⟨pQ,pQ,aTq _⟩,aNH];simp only[aSq];by_cases h0:(yU (s[i]::s.drop (i+1))).2=0
    .rw[aSn (by rw[h0];rfl),aSn h0]
    rw[aSo (by rw[aSx];omega),aSo h0,aNL hx pQ]
    simp only[aSq];rw[aSn (by unfold qP;omega)];rfl
  rw[aSo (by simpa using c1),aSn (uV hi)]
  by_cases hb:HU n s[i]=true
  .rw[aSn hb,S3 c1 hb];rfl
  rw[aSo hb,S4 c1 hb,aSn (uV hi),aNK hx,aSq]
  rw[aSn (yH pQ)];rfl
theorem aF0 {n:Int}(h1:1≤n) (h3:n≤3) {s:pM}(hs:sO s): ∀(k i:Nat) (x:pW),i≤s.length→s.length-i≤k→x.length+4*(s.length-i)≤5000000000000→
    sC (OL n s) ((i:Int),x)=some (match BE n k (s.drop i) with| .inl r=> .inl (x++uP r) | .inr e=> .inr ([],((i+e:Nat):Int),3))
  | k,i,x,hi,hk,hx=>by
    by_cases hlt:i<s.length
    · cases k with
      |zero=>omega
      | succ k=>
        have hp:=a7Q n (s.drop i);rw[uN,aNM h1 h3 hs hlt pQ];rw[aSW] at hp
        have hu:BE n (k+1) (s.drop i)=if (uW n (s.drop i)).2=0 then .inr 0 else match BE n k ((s.drop i).drop (uW n (s.drop i)).2) with
            | .inl r=> .inl ((uW n (s.drop i)).1++r)
            | .inr e=> .inr ((uW n (s.drop i)).2+e):=by
          rw[aS4 hlt,BE]
        rw[hu];by_cases h0:(uW n (s.drop i)).2=0
        .rw[aSn h0,aSn h0];rfl
        rw[aSo h0,aSo h0]
        show sC _ (((i+(uW n (s.drop i)).2:Nat):Int),_)=_;rw[aF0 h1 h3 hs k _ _ pQ pQ (by rw[aSp];simp only[uP,aTV];omega),aUw];cases BE n k (s.drop (i+(uW n (s.drop i)).2)) with
        |inl r=>dsimp only;rw[aFY,aSB]
        |inr e=>dsimp only;rw[aS5]
    have:i=s.length:=by omega
    subst this;rw[BV (r:= .inl x) (by unfold OL;simp),aTs];cases k<;>simp [BE,uP]
theorem aNN {n:Int}(h1:1≤n) (h3:n≤3) {s:pM}(hs:sO s):HO n s=some (wN n s):=by
  unfold HO;have hs':=hs;unfold sO at hs';rw[aSo pT,aSo pT,show ((0:Int),([]:pW))=(((0:Nat):Int),([]:pW)) from rfl,aF0 h1 h3 hs s.length 0 [] pQ pQ pT,aTG];unfold wN;cases BE n s.length s with
  | inl r=>
    show some (tD ([]++uP r),(0:Int),(0:Int))=_;rw[List.nil_append,aFZ]
  | inr e=>
    show some (([]:pM),((0+e:Nat):Int),(3:Int))=_;rw[aSU]
theorem aNO (x y:UInt8):(x==y)=decide (y=x):=by
  by_cases h:y=x
  .subst h;rw[beq_self_eq_true,aS1 rfl]
  rw[decide_eq_false h,beq_eq_false_iff_ne];exact fun e=>h e.symm
theorem aNP {o:pZ}:(if (MF o== -1)=true then(-1:Int) else MF o+1)=MF (o.map (· +1)):=by
  cases o with
  |none=>rfl
  | some k=>
    show (if ((k:Int)== -1)=true then(-1:Int) else(k:Int)+1)=((k+1:Nat):Int);rw[aSo (by rw[aT2];omega)];rfl
theorem a7R: ∀(l:pM),Lib.indexByte l 10=MF (l.findIdx? fun b=>decide (b=10))
  |[]=>rfl
  | b::t=>by
    rw[Lib.indexByte,aTZ,a7R t,aNO,aNP];by_cases h:b=10
    .subst h;rfl
    rw[aSo (by simpa using fun e=>h (Eq.symm e)),aSo (by simpa using h)]
theorem aNQ (l:pM):(yU l).2=0∨(yU l).1.length≤(yU l).2:=by
  unfold yU;split
  · rename_i a c t
    have h1:=Y1 (l:=t.take 2) (k:=4) (ok:=fun n=>decide (n≤127)) (f:=fun n=>tD [n]) (fun n=>by simp [tD]);have h2:=Y1 (l:=t.take 4) (k:=6) (ok:=y6) (f:=Lib.encodeRune) a7M
    repeat' split
    all_goals first
      |exact .inl rfl
      |exact .inr pS
      | (rcases h1.2 with e|e
         .exact .inl e
         .exact .inr (by rw[e];exact h1.1))
      | (rcases h2.2 with e|e
         .exact .inl e
         exact .inr (by rw[e];have:=h2.1;omega))
  exact .inl rfl
theorem aNR (n:Int) (l:pM):(uW n l).2=0∨(uW n l).1.length≤(uW n l).2:=by
  cases l with
  |nil=>exact .inl rfl
  | cons b t=>
    by_cases h:b=92
    .rw[S2 h];exact aNQ _
    by_cases hb:HU n b=true
    .rw[S3 h hb];exact .inl rfl
    rw[S4 h hb];exact .inr pS
theorem aF1 (n:Int): ∀(k:Nat) (l r:pM),BE n k l= .inl r→r.length≤l.length
  |0,_,_,h=>by cases h;simp
  |_+1,[],_,h=>by cases h;simp
  | k+1,b::t,r,h=>by
    rw[BE] at h;split at h
    .cases h
    rename_i hz
    have hp:=(aNR n (b::t)).resolve_left hz;have hq:=(a7Q n (b::t)).2;cases hu:BE n k ((b::t).drop (uW n (b::t)).2) with
    | inl r'=>
      rw[hu] at h;cases h;have:=aF1 n k _ r' hu;rw[aSW] at this;rw[aSp];omega
    |inr e=>rw[hu] at h;cases h
theorem aF2 (n:Int) (s:pM):(wN n s).1.length≤s.length:=by
  unfold wN;cases h:BE n s.length s with
  |inl r=>exact aF1 n _ _ _ h
  |inr e=>simp
abbrev C4:=pM×(pN×(List sX×(List t7×Unit)))
theorem wW {v:Ty}(a b:pM) (y:v.den): ∀l:List (pM×v.den),sP .str v (sY .str v a y l) b=if b=a then y else sP .str v l b
  | []=>by
    show (if decide (b=a)=true then y else v.zero)=if b=a then y else v.zero;by_cases h:b=a<;>simp [h]
  | (x,z)::r=>by
    have ih:=wW a b y r;show sP .str v (if decide (a=x)=true then(a,y)::r else(x,z)::sY .str v a y r) b=if b=a then y else(if decide (b=x)=true then z else sP .str v r b);by_cases h:a=x
    · rw[aSn (aS1 h)]
      show (if decide (b=a)=true then y else sP .str v r b)=_;by_cases hb:b=a
      .rw[aSn (aS1 hb),aSn hb]
      rw[aSo (by simpa using hb),aSo hb,aSo (by rw[←h];simpa using hb)]
    rw[aSo (by simpa using h)]
    show (if decide (b=x)=true then z else sP .str v (sY .str v a y r) b)=_;rw[ih];by_cases hb:b=a
    .rw[aSn hb,aSn hb,aSo (by rw[hb];simpa using h)]
    rw[aSo hb,aSo hb]
theorem FS: ∀(x y:pM),Op.bytesLess x y=decide (x<y)
  |[],[]=>by simp [Op.bytesLess]
  |_::_,[]=>by simp [Op.bytesLess]
  |[],_::_=>by simp [Op.bytesLess]
  | a::x,b::y=>by
    rw[Op.bytesLess,FS x y];simp only[List.cons_lt_cons_iff];by_cases h1:a<b<;>by_cases h2:a=b<;>by_cases h3:x<y<;>simp [h1,h2,h3]
theorem aNS (l:pN):(uB l).Pairwise (·≤·):=by
  have:=List.pairwise_mergeSort (le:=fun x y:pM=>decide (x≤y)) (fun a b c h1 h2=>aS1 (List.le_trans (aSZ h1) (aSZ h2))) (fun a b=>by simpa using List.le_total a b) l;exact this.imp (fun h=>aSZ h)
theorem aF3 (l:pN):(uB l).Perm l:=List.mergeSort_perm l _
theorem S5 (l:pN):(uB l).length=l.length:=(aF3 l).length_eq
abbrev eD:vM:=([],([],([],([],([],(0,([],())))))))
def HV (es:List vM) (i:Nat):Bool:=((es.take i).any fun y=>decide (y.1=(es.getD i eD).1))|| !BD (es.getD i eD)
def D4 (c:C4):Bool:=((xH c.1&&wM c.2.1)&&wA c.2.2.1)&&(decide ((c.2.2.2.1.length:Int)≤1000)&& !((List.range c.2.2.2.1.length).any (HV c.2.2.2.1)))
theorem aF4 {c:C4}(hok:D4 c=true) {i:Nat}(hi:i<c.2.2.2.1.length):BD (c.2.2.2.1.getD i eD)=true:=by
  unfold D4 at hok;simp only[aSA,aSR,aS7,aT1] at hok;have:=hok.2.2 i hi;unfold HV at this;simp only[aTN,aSR,not_or,Bool.not_eq_false] at this;exact this.2
theorem aF5 {l:pM}(h: ∀b∈l,b.toNat<128):Lib.validD l=true:=by
  rw[Lib.validD_ascii l.length l (fun b hb=>h b (List.mem_of_mem_take hb)),aTs];rfl
theorem aNT {b:UInt8}(h:AD b.toNat=false):b.toNat<128:=by
  unfold AD at h;simp only[aUg,aUa,aSA,aSx] at h;omega
theorem a7S {x:pM}(h:w9 x=true):sK x=true:=by
  cases x with
  |nil=>cases h
  | cons b t=>
    unfold w9 at h;simp only[aSA,aSR,aS7,aTC,aS2] at h;obtain⟨⟨h0,h1⟩,h2⟩:=h;unfold sK;rw[aSA,aSx];refine⟨by simp only[aSt];omega,aF5 fun c hc=>?_⟩;rcases aSC.1 hc with rfl|hc
    · unfold C0 at h1
      simp only[aSA,aSx] at h1;omega
    exact aNT (h2 c hc)
theorem JQ {l:pN}(h:wM l=true):l.length≤20∧∀x∈l,sK x=true:=by
  unfold wM at h;simp only[aSA,aSR,aS7,aSx,aTC,aUa] at h;exact⟨pQ,fun x hx=>by simpa using h.2 x hx⟩
theorem a7T {α:Type}{r:α→α→Prop}(tr: ∀a b c,r a b→r b c→r a c) {l:List α}(h: ∀(i:Nat) (hi:i+1<l.length),r l[i] l[i+1]):l.Pairwise r:=by
  rw[aTa];intro i j hi hj hij;obtain⟨k,rfl⟩: ∃k,j=i+1+k:=⟨j-i-1,pQ⟩
  induction k with
  |zero=>exact h i hj
  |succ k ih=>exact tr _ _ _ (ih pQ pQ) (h (i+1+k) hj)
theorem ER {α:Type}{l:List α}{i:Nat}{d:α}(h:i<l.length):l.getD i d=l[i]:=by
  rw[aSO,aSv h];rfl
theorem aNU {l:pN}(h:FR l=true):l.length≤20∧(∀x∈l,w9 x=true)∧l.Pairwise (· < ·):=by
  unfold FR at h;simp only[aSA,aSR,aS7,aSx,aT1,aTC] at h;obtain⟨h1,h2⟩:=h;unfold XT at h1;simp only[aTI,aUg,aUa,aS2] at h1;refine⟨pQ,fun x hx=>?_,a7T (r:=fun a b:pM=>a<b) (fun a b c=>List.lt_trans) fun i hi=>?_⟩
  · obtain⟨i,hi,rfl⟩:=aT5 hx
    have:=(h1 i hi).1;rwa [ER hi] at this
  have:=(h1 (i+1) hi).2
  rw[ER hi,Nat.add_sub_cancel,ER (show i<l.length by omega),FS] at this;exact aSZ (this.resolve_left pQ)
theorem JR {l:List sX}(h:wA l=true):l.length≤20∧(∀x∈l,w9 x.1=true∧sK x.1=true∧sK x.2.1=true)∧l.Pairwise (fun a b=>a.1<b.1):=by
  unfold wA at h;simp only[aSA,aSR,aS7,aSx,aT1,aTC] at h;obtain⟨h1,h2⟩:=h;unfold XU at h1;simp only[aTI,aUg,aUa,aS2] at h1;refine⟨pQ,fun x hx=>?_,a7T (r:=fun a b:sX=>a.1<b.1) (fun a b c=>List.lt_trans) fun i hi=>?_⟩
  · obtain⟨i,hi,rfl⟩:=aT5 hx
    have:=(h1 i hi).1;rw[ER hi] at this;exact⟨this.1,a7S this.1,this.2⟩
  have:=(h1 (i+1) hi).2
  rw[ER hi,Nat.add_sub_cancel,ER (show i<l.length by omega),FS] at this;exact aSZ (this.resolve_left pQ)
theorem aNV {es:List vM}(h: ∀i,i<es.length→HV es i=false):es.Pairwise (fun a b=>a.1≠b.1):=by
  rw[aTa];intro i j hi hj hij he;have h1:=h j hj;unfold HV at h1;simp only[aTI,aS7,aSx] at h1;rw[ER hj] at h1;exact h1.1 es[i] (by rw[List.mem_take_iff_getElem];exact⟨i,pQ,rfl⟩) he
theorem aF6 {c:C4}(h:D4 c=true):xH c.1=true∧wM c.2.1=true∧wA c.2.2.1=true∧c.2.2.2.1.length≤1000∧(∀x∈c.2.2.2.1,BD x=true)∧c.2.2.2.1.Pairwise (fun a b=>a.1≠b.1):=by
  have h':=h;unfold D4 at h';simp only[aSA,aSR,aS7,aT1,aSx,aTC] at h';obtain⟨⟨⟨h1,h2⟩,h3⟩,h4,h5⟩:=h';refine⟨h1,h2,h3,pQ,fun x hx=>?_,aNV h5⟩;obtain⟨i,hi,rfl⟩:=aT5 hx;have:=aF4 h hi;rwa [ER hi] at this
theorem a7U {a b:pM}(h: ¬a<b) (hne:a≠b):b<a:=by
  have:=aNz a b;rw[FS,FS] at this;have h1:decide (a<b)=false:=by simpa using h
  have h2:decide (b=a)=false:=by simpa using fun e=>hne e.symm
  rw[h1,h2] at this;simpa using this.symm
theorem a7V {α:Type}(f:α→pM) {x:α}{p:α→Bool}: ∀{l:List α},l.Pairwise (fun a b=>f a<f b)→(∀y∈l,f y≠f x)→(∀y∈l,p y= !decide (f y<f x))→
    (l.take ((l.findIdx? p).getD l.length)++[x]++l.drop ((l.findIdx? p).getD l.length)).Pairwise (fun a b=>f a<f b)
  |[],_,_,_=>by simp
  | a::t,hp,hne,hpp=>by
    rw[aUo] at hp;have hpa:=hpp a aSH;rw[aTZ];by_cases h:f a<f x
    · have hpf:p a=false:=by rw[hpa];simpa using h
      rw[hpf];have ih:=a7V f (x:=x) hp.2 (fun y hy=>hne y (aSy _ hy)) (fun y hy=>hpp y (aSy _ hy))
      have e:((if false=true then some 0 else(t.findIdx? p).map fun i=>i+1).getD (a::t).length)=(t.findIdx? p).getD t.length+1:=by
        cases t.findIdx? p<;>rfl
      rw[e,List.take_succ_cons,aUu,List.cons_append,List.cons_append,aUo];refine⟨fun y hy=>?_,ih⟩;rw[aSB] at hy;rcases aTc.1 hy with hy|hy
      .exact hp.1 y (List.mem_of_mem_take hy)
      rcases aSC.1 hy with rfl|hy
      .exact h
      exact hp.1 y (List.mem_of_mem_drop hy)
    have hpt:p a=true:=by rw[hpa];simpa using h
    rw[hpt];have hx:f x<f a:=a7U h (hne a aSH);show ([]++[x]++(a::t)).Pairwise _;rw[List.nil_append,aUe,aUo];refine⟨fun y hy=>?_,aUo.2 hp⟩;rcases aSC.1 hy with rfl|hy
    .exact hx
    exact List.lt_trans hx (hp.1 y hy)
theorem aNW {α:Type}{l:List α}{x y:α}{k:Nat}(h:y∈l.take k++[x]++l.drop k):y=x∨y∈l:=by
  rw[aSB] at h;rcases aTc.1 h with h|h
  .exact .inr (List.mem_of_mem_take h)
  rcases aSC.1 h with h|h
  .exact .inl h
  exact .inr (List.mem_of_mem_drop h)
theorem aNX {α:Type}{l:List α}{x:α}{k:Nat}:(l.take k++[x]++l.drop k).length=l.length+1:=by
  simp only[aSp,aS0,aSW,aTr];omega
theorem aNY {α:Type}{r:α→α→Prop}{l:List α}(h:l.Pairwise r) {i:Nat}(h0:0<i) (hi:i<l.length):r l[i-1] l[i]:=by
  rw[aTa] at h;exact h (i-1) i pQ hi pQ
theorem aF7 {l:List sX}(h:l.length≤20) (hx: ∀x∈l,w9 x.1=true∧sK x.2.1=true) (hp:l.Pairwise (fun a b=>a.1<b.1)):wA l=true:=by
  unfold wA;simp only[aSA,aSR,aS7,aSx,aT1,aTC];refine⟨fun i hi=>?_,pQ⟩;unfold XU;obtain⟨a,b⟩:=hx _ (aTB hi);rw[ER hi,a,b];by_cases h0:0<i
  · rw[ER (show i-1<l.length by omega),FS]
    simp [aNY hp h0 hi]
  simp [h0]
theorem aNZ {l:List sX}{n v:pM}(h:wA l=true) (hl: ¬20≤l.length) (hx:w9 n=true) (hv:sK v=true) (hn: ¬(l.any fun y=>decide (y.1=n))=true):wA (yI l n v)=true:=by
  obtain⟨h1,h2,h3⟩:=JR h;have hne: ∀y∈l,y.1≠n:=fun y hy e=>hn (List.any_eq_true.2 ⟨y,hy,by simp [e]⟩)
  have hk:y5 l n=none:=by
    unfold y5;rw[aTu];intro y hy;simpa using hne y hy
  unfold yI;rw[hk];show wA (l.take (uD l n)++[(n,v,())]++l.drop (uD l n))=true;unfold uD;refine aF7 (by rw[aNX];omega) (fun y hy=>?_) (a7V (fun y:sX=>y.1) (x:=(n,v,())) h3 hne fun y hy=>?_)
  · rcases aNW hy with rfl|hy
    .exact⟨hx,hv⟩
    exact⟨(h2 y hy).1,(h2 y hy).2.2⟩
  rw[FS]
  have:decide (y.1=n)=false:=by simpa using hne y hy
  rw[this,Bool.or_false]
structure a7W (es:List vM):Prop where
  len:es.length≤1000
  ok: ∀x∈es,BD x=true
  pw:es.Pairwise (fun a b=>a.1≠b.1)
section
variable {s:pM}(hsm:s.length≤4000000000) {bad:Int}{ends:pW}{tag:pM}{cms:pN}{fds:List sX}{es:List vM}
include hsm
omit hsm in
theorem aN0 {c:C4}(h1:xH c.1=true) (h2:wM c.2.1=true) (h3:wA c.2.2.1=true) (h4:a7W c.2.2.2.1):D4 c=true:=by
  unfold D4;rw[h1,h2,h3,aS1 (show ((c.2.2.2.1.length:Int))≤1000 by have:=h4.len;omega)];simp only[Bool.true_and,aSR,aS7,aT1,aTC];intro i hi;unfold HV;rw[ER hi,h4.ok _ (aTB hi)];simp only[Bool.not_true,Bool.or_false,aS7,aSx];intro y hy;rw[List.mem_take_iff_getElem] at hy;obtain⟨j,hj,rfl⟩:=hy;exact aTa.1 h4.pw j i pQ hi pQ
end
theorem AG {x:pM}(h:sK x=true):x.length≤4000:=by
  unfold sK at h;simp only[aSA,aSx] at h;omega
structure a7X (x:vM):Prop where
  id:x.1.length≤4000
  src:x.2.1.length≤4000
  tgt:x.2.2.1.length≤4000
  com:x.2.2.2.1.length≤20∧∀y∈x.2.2.2.1,y.length≤4000
  flg:x.2.2.2.2.1.length≤20∧∀y∈x.2.2.2.2.1,y.length≤4000
  fld:x.2.2.2.2.2.2.1.length≤20∧∀y∈x.2.2.2.2.2.2.1,y.1.length≤4000∧y.2.1.length≤4000
theorem aN1 {x:vM}(h:BD x=true):a7X x:=by
  have h':=h;unfold BD at h';simp only[aSA] at h';obtain⟨⟨⟨⟨⟨⟨⟨⟨hne,h200⟩,hid⟩,hsrc⟩,htgt⟩,hcom⟩,hflg⟩,_⟩,hfld⟩:=h';obtain⟨c1,c2⟩:=JQ hcom;obtain⟨f1,f2,f3⟩:=aNU hflg;obtain⟨g1,g2,g3⟩:=JR hfld;exact⟨AG hid,AG hsrc,AG htgt,⟨c1,fun y hy=>AG (c2 y hy)⟩,⟨f1,fun y hy=>AG (a7S (f2 y hy))⟩,⟨g1,fun y hy=>⟨AG (g2 y hy).2.1,AG (g2 y hy).2.2⟩⟩⟩
noncomputable section
abbrev Wd:=Bool×pM×Unit
def tK (b:UInt8):Bool:=([32,9]:pM).contains b
def tU (b:UInt8):Bool:= !([32,9,34]:pM).contains b
theorem aN2 (s:pM):Lib.trimLeftS s ([32,9]:pM)=s.dropWhile tK:=rfl
theorem aF8 (b:UInt8):tK b=true↔b=32∨b=9:=by simp [tK]
theorem a7Y (b:UInt8):tU b=true↔b≠32∧b≠9∧b≠34:=by simp [tU]
theorem Y2 {b:UInt8}(h:tK b=false) (h2:b≠34):tU b=true:=by
  rw[a7Y];have: ¬(b=32∨b=9):=fun e=>by rw[(aF8 b).2 e] at h;cases h
  exact⟨fun e=>this (.inl e),fun e=>this (.inr e),h2⟩
theorem aN3 {b:UInt8}(h:tU b=false) (h2:b≠34):tK b=true:=by
  cases hg:tK b with
  |true=>rfl
  |false=>rw[Y2 hg h2] at h;cases h
theorem S6 {α:Type}(p:α→Bool) (l:List α):(l.dropWhile p).length≤l.length:=(List.dropWhile_suffix p).length_le
theorem MG {α:Type}{p:α→Bool}: ∀{l:List α}{b:α}{t:List α},l.dropWhile p=b::t→p b=false
  |[],_,_,h=>by cases h
  | a::l,b,t,h=>by
    rw[List.dropWhile_cons] at h;cases ha:p a with
    |true=>rw[aSn ha] at h;exact MG h
    |false=>rw[aSo (by simp [ha])] at h;cases h;exact ha
theorem aF9 {α:Type}{p:α→Bool}: ∀(l:List α),∀x∈l.takeWhile p,p x=true
  |[],_,h=>by cases h
  | a::l,x,h=>by
    rw[List.takeWhile_cons] at h;cases ha:p a with
    | true=>
      rw[aSn ha] at h;rcases aSC.1 h with rfl|h
      .exact ha
      .exact aF9 l x h
    |false=>rw[aSo (by simp [ha])] at h;cases h
def FT:pM→Bool
  |[]=>true
  |b::_=>tK b
def AH (s:pM):Option (Wd×pM):=
  if s.head? =some 34 then
    match tR 34 (s.drop 1) with
    |none=>none
    |some k=>if (wN 2 ((s.drop 1).take k)).2.2=0∧sK (wN 2 ((s.drop 1).take k)).1=true∧FT (s.drop (k+2))=true then some ((true,(wN 2 ((s.drop 1).take k)).1,()),s.drop (k+2)) else none
  else if (s.dropWhile tU).head? =some 34 then none else some ((false,s.takeWhile tU,()),s.dropWhile tU)
def xI:Nat→pM→Option (List Wd)
  |0,_=>none
  | n+1,s=>if s.dropWhile tK=[] then some [] else match AH (s.dropWhile tK) with
    |none=>none
    |some w=>(xI n w.2).map (w.1:: ·)
def JS (s:pM):Option (List Wd):=xI (s.length+1) s
theorem a7Z {b:UInt8}{t:pM}{w:Wd}{r:pM}(hg:tK b=false) (h:AH (b::t)=some (w,r)):r.length<(b::t).length:=by
  unfold AH at h;split at h
  · split at h
    .cases h
    rename_i k hk
    split at h
    · cases h
      rw[aSW];simp only[aSt];omega
    cases h
  rename_i h34
  split at h
  .cases h
  cases h
  have hb:tU b=true:=Y2 hg fun e=>h34 (by rw[e];rfl);rw[List.dropWhile_cons,aSn hb];have:=S6 tU t;simp only[aSt];omega
def AI (n:Nat) (w:Wd):Prop:=if w.1=true then sK w.2.1=true else w.2.1.length≤n∧(∀b∈w.2.1,tU b=true)∧w.2.1≠[]
theorem aN4 {b:UInt8}{t:pM}{w:Wd}{r:pM}(hg:tK b=false) (h:AH (b::t)=some (w,r)):AI (b::t).length w∧FT r=true:=by
  unfold AH at h;split at h
  · split at h
    .cases h
    split at h
    · rename_i hc
      cases h;exact⟨by unfold AI;rw[aSn rfl];exact hc.2.1,hc.2.2⟩
    cases h
  rename_i h34
  split at h
  .cases h
  rename_i hd
  cases h;have hb:tU b=true:=Y2 hg fun e=>h34 (by rw[e];rfl);refine⟨?_,?_⟩
  · unfold AI
    rw[aSo pS];exact⟨(List.takeWhile_prefix _).length_le,fun x hx=>aF9 _ x hx,by rw[List.takeWhile_cons,aSn hb];simp⟩
  cases hx:(b::t).dropWhile tU with
  |nil=>rfl
  | cons c u=>
    rw[hx] at hd;exact aN3 (MG hx) fun e=>hd (by rw[e];rfl)
theorem aGa: ∀t:pM,Lib.indexAny t [32,9,34]=if t.dropWhile tU=[] then-1 else((t.takeWhile tU).length:Int)
  |[]=>rfl
  | b::t=>by
    rw[Lib.indexAny,aGa t,List.dropWhile_cons,List.takeWhile_cons];cases hc:([32,9,34]:pM).contains b with
    | true=>
      have:tU b=false:=by unfold tU;rw[hc];rfl
      simp [this]
    | false=>
      have:tU b=true:=by unfold tU;rw[hc];rfl
      rw[aSo pS,aSn this,aSn this];by_cases he:t.dropWhile tU=[]
      · rw[aSn he,aSn he]
        rfl
      rw[aSo he,aSo he,aSo (by simp only[aT2];omega)]
      simp
theorem aGb {t:pM}{p:UInt8→Bool}:t.take (t.takeWhile p).length=t.takeWhile p∧t.drop (t.takeWhile p).length=t.dropWhile p:=by
  have h:t.takeWhile p++t.dropWhile p=t:=List.takeWhile_append_dropWhile;exact⟨(aSM (List.take _) h.symm).trans (List.take_left' rfl),(aSM (List.drop _) h.symm).trans (List.drop_left' rfl)⟩
theorem aN5 {t:pM}{p:UInt8→Bool}(h:t.dropWhile p=[]):t.takeWhile p=t:=by
  have:=List.takeWhile_append_dropWhile (p:=p) (l:=t);rw[h,List.append_nil] at this;exact this
theorem aN6 (x:pM):((decide ((([34]:pM).length:Int)≤(x.length:Int)))&&(decide ((rV x (0:Int) (([34]:pM).length:Int))=([34]:pM))))=decide (x.head? =some 34):=by
  cases x with
  |nil=>rfl
  | cons b t=>
    have h:rV (b::t) 0 (([34]:pM).length:Int)=[b]:=rfl;rw[h];have h2:decide ((([34]:pM).length:Int)≤((b::t).length:Int))=true:=aS1 (by simp only[aSt,aSF];omega);rw[h2,Bool.true_and];simp
theorem aN7 (x p:pM):OB x p=some ():=by
  unfold OB O5;rw[aSn (fun h=>by simp only[aT2,aSx] at h;omega)];rfl
theorem aN8 (r:pM):(((!decide (r=([]:pM)))&&(!decide ((sH r (0:Int))=(32:Int))))&&(!decide ((sH r (0:Int))=(9:Int))))= !FT r:=by
  cases r with
  |nil=>rfl
  | cons b t=>
    have hb:sH (b::t) 0=(b.toNat:Int):=rfl;rw[hb,D3 (n:=32) 32 rfl,D3 (n:=9) 9 rfl];show ((!decide (b::t=[])&& !decide (b=32))&& !decide (b=9))= !tK b;rw[decide_eq_false pS];unfold tK;by_cases h1:b=32
    .subst h1;rfl
    by_cases h2:b=9
    .subst h2;rfl
    simp [h1,h2]
theorem a71 {s:pM}(hs:s.length≤1100000000): ∃v,D2 (s,(false,()))=some v∧
    (s.dropWhile tK=[]→v=(false,[],false,[],false))∧
    (s.dropWhile tK≠[]→match AH (s.dropWhile tK) with
      |some w=>v=(w.1.1,w.1.2.1,true,w.2,false)
      |none=>v.2.2.1=false∧v.2.2.2.2=true):=by
  have hl:=S6 tK s;obtain⟨t,ht⟩: ∃t,s.dropWhile tK=t:=⟨_,rfl⟩;rw[ht] at hl;unfold D2;dsimp only;rw[show Lib.trimLeftS s ([32,9]:pM)=t from ht,ht];cases t with
  |nil=>exact⟨_,aSn rfl,fun _=>rfl,fun h=>absurd rfl h⟩
  | cons b u=>
    have hg:=MG ht;simp only[aSt] at hl;rw[aSo pS,aSn ⟨pQ,by simp only[aSt];omega⟩];have hb:sH (b::u) 0=(b.toNat:Int):=rfl;by_cases h34:b=34
    · subst h34
      rw[aSo (by rw[hb];simp),aSn ⟨pQ,by simp only[aSt];omega,aTq _⟩]
      have hc1:rV ((34:UInt8)::u) 1 (((34:UInt8)::u).length:Int)=u:=by
        rw[show ((1:Int))=((1:Nat):Int) from rfl,HR];rfl
      have hfu:sO u:=by unfold sO;omega
      rw[hc1,show ((34:Int))=(((34:UInt8).toNat:Nat):Int) from rfl,aNA pR pR u 34 hfu,aSq]
      have hn:AH ((34:UInt8)::u)=match tR 34 u with
        |none=>none
        |some k=>if (wN 2 (u.take k)).2.2=0∧sK (wN 2 (u.take k)).1=true∧FT (u.drop (k+1))=true then some ((true,(wN 2 (u.take k)).1,()),u.drop (k+1)) else none:=by
        unfold AH;rw[aSn (show ((34:UInt8)::u).head? =some 34 from rfl)];rfl
      rw[hn];cases hk:tR 34 u with
      | none=>
        rw[aSn qE];exact⟨_,rfl,fun h=>(by cases h),fun _=>⟨rfl,rfl⟩⟩
      | some k=>
        have hku:=XZ _ _ _ (aSJ _) hk;have hfk:sO (u.take k):=by unfold sO;rw[aS0];omega
        have hc2:rV ((34:UInt8)::u) 1 ((k:Int)+1)=u.take k:=by
          unfold rV;rw[show ((k:Int)+1).toNat=k+1 by omega];rfl
        have hc3:rV ((34:UInt8)::u) ((k:Int)+2) (((34:UInt8)::u).length:Int)=u.drop (k+1):=by
          rw[show ((k:Int)+2)=((k+2:Nat):Int) by omega,HR];rfl
        rw[show MF (some k)=(k:Int) from rfl,aSo pS,aSn (show qP ((k:Int)+1) by unfold qP;omega),aSn ⟨pQ,pQ,by simp only[aSt];omega⟩];rw[hc2,aNN pR pR hfk,aSq,aSn (show qP ((k:Int)+2) by unfold qP;omega),aSn ⟨pQ,by simp only[aSt];omega,aTq _⟩];rw[hc3]
        have hft:sO (wN 2 (u.take k)).1:=by
          have:=aF2 2 (u.take k);unfold sO at hfk|-;omega
        rw[aSn (fun _=>by rw[ME _ hft];rfl)]
        have hpos: ∀q:Bool,(q&&(!decide (u.drop (k+1)=([]:pM)))==true)=true→0≤(0:Int)∧(0:Int)<((u.drop (k+1)).length:Int):=fun q hq=>by
          simp only[aSA,aT2,aSR,aS2] at hq;have:=aTm.2 hq.2;omega
        rw[aSn (hpos _),aSn (fun hq=>hpos true (by
          simp only[aSA,aT2,aSR,aS2] at hq|-;exact⟨trivial,hq.2.1⟩))]
        simp only[aN8];refine⟨_,rfl,fun h=>(by cases h),fun _=>?_⟩;have hto:((decide ((List.length (wN 2 (u.take k)).1:Int)≤(4000:Int)))&&(Lib.validD (wN 2 (u.take k)).1))=sK (wN 2 (u.take k)).1:=rfl;simp only[hto];by_cases hc:(wN 2 (u.take k)).2.2=0∧sK (wN 2 (u.take k)).1=true∧FT (u.drop (k+1))=true
        · rw[aSn hc]
          obtain⟨h1,h2,h3⟩:=hc;simp [h1,h2,h3]
        rw[aSo hc]
        have:((!decide ((wN 2 (u.take k)).2.2=0))||(!sK (wN 2 (u.take k)).1)|| !FT (u.drop (k+1)))=true:=by
          cases h1:decide ((wN 2 (u.take k)).2.2=0)<;>cases h2:sK (wN 2 (u.take k)).1<;>cases h3:FT (u.drop (k+1))<;>first|rfl|exact absurd ⟨aSZ h1,h2,h3⟩ hc
        exact⟨by simp only[this];rfl,this⟩
    have hp:tU b=true:=Y2 hg h34
    rw[aSn (by rw[hb,D3 (n:=34) 34 rfl];simp [h34]),aSn (by simp only[aSt];omega)]
    have hn:AH (b::u)=if ((b::u).dropWhile tU).head? =some 34 then none else some ((false,(b::u).takeWhile tU,()),(b::u).dropWhile tU):=by
      unfold AH;rw[aSo (by simp [h34])]
    rw[hn];have hix:NW (b::u) ([32,9,34]:pM)=if (b::u).dropWhile tU=[] then-1 else(((b::u).takeWhile tU).length:Int):=aGa _
    have hx:(if (decide (NW (b::u) ([32,9,34]:pM)<(0:Int)))=true then some (((b::u).length:Int)) else some (NW (b::u) ([32,9,34]:pM)))=(some (((b::u).takeWhile tU).length:Int)):=by
      rw[hix];by_cases he:(b::u).dropWhile tU=[]
      .rw[aSn he,aSn qE,aN5 he]
      rw[aSo he,aSo pS]
    have htl:((b::u).takeWhile tU).length≤(b::u).length:=(List.takeWhile_prefix _).length_le;rw[hx];unfold uA;rw[aSq,aSn ⟨aTq _,pQ,pQ⟩,aSn ⟨pQ,pQ,aTq _⟩,HR,S0,aGb.1,aGb.2,aN7,aSq];simp only[aN6];refine⟨_,rfl,fun h=>(by cases h),fun _=>?_⟩;by_cases hh:((b::u).dropWhile tU).head? =some 34
    · rw[aSn hh]
      exact⟨by simp [hh],by simp [hh]⟩
    rw[aSo hh]
    simp [hh]
end
noncomputable section
theorem aN9 (n:Nat):xI (n+1) []=some []:=aSn rfl
theorem aGc: ∀(n:Nat) (s:pM) (out:List Wd) (v:Bool×pM×Bool×pM×Bool),s.length<n→s.length+out.length≤1100000000→D2 (s,(false,()))=some v→
    ∃ r,sC OM (out,v.2.2.1,v.2.2.2.1,v.2.2.2.2,v.1,v.2.1)=some r∧match xI n s with
      |some l=>r.1=out++l∧r.2.2=false
      |none=>r.2.2=true
  |0,s,out,v,h,_,_=>by omega
  | n+1,s,out,v,h,hl,hv=>by
    obtain⟨v',hv',h1,h2⟩:=a71 (s:=s) pQ;rw[hv] at hv';cases hv';rw[xI];by_cases he:s.dropWhile tK=[]
    · rw[aSn he,h1 he,uN]
      refine⟨(out,[],false),?_,by simp,rfl⟩;unfold OM;dsimp only;rw[aSo pS,aSq]
    rw[aSo he]
    have hm:=h2 he;cases hw:AH (s.dropWhile tK) with
    | none=>
      rw[hw] at hm;obtain⟨h3,h4⟩:v.2.2.1=false∧v.2.2.2.2=true:=hm;rw[uN];refine⟨(out,v.2.2.2.1,v.2.2.2.2),?_,h4⟩;unfold OM;dsimp only;rw[h3,aSo pS,aSq]
    | some w=>
      rw[hw] at hm;have hm:v=(w.1.1,w.1.2.1,true,w.2,false):=hm;subst hm;cases ht:s.dropWhile tK with
      |nil=>exact absurd ht he
      | cons b t=>
        rw[ht] at hw;have hlt:=a7Z (MG ht) hw;have hle:=S6 tK s;rw[ht] at hle;obtain⟨v2,hv2,_,_⟩:=a71 (s:=w.2) pQ;obtain⟨r,hr,hrm⟩:=aGc n w.2 (out++[w.1]) v2 pQ (by rw[aSp];simp only[aSt,aSF];omega) hv2;refine⟨r,?_,?_⟩
        · rw[uN]
          unfold OM;dsimp only;rw[aSn rfl,aSn (by simp only[aSt,aSF];omega),hv2,aSq,aSq];exact hr
        show match (xI n w.2).map (w.1:: ·) with|some l=>r.1=out++l∧r.2.2=false|none=>r.2.2=true
        cases hwn:xI n w.2 with
        |none=>rw[hwn] at hrm;exact hrm
        | some l=>
          rw[hwn] at hrm;obtain⟨h3,h4⟩:r.1=(out++[w.1])++l∧r.2.2=false:=hrm;exact⟨by rw[h3,aSB];rfl,h4⟩
theorem aGd {s:pM}(hs:s.length≤1100000000): ∃r,EM s=some r∧match JS s with
    |some l=>r=(l,true)
    |none=>r.2=false:=by
  obtain⟨v,hv,_,_⟩:=a71 hs;obtain⟨r,hr,hm⟩:=aGc (s.length+1) s [] v pQ (by simpa using hs) hv;refine⟨(r.1,!r.2.2),?_,?_⟩
  · unfold EM
    rw[hv,aSq];unfold uA;rw[hr,aSq]
  unfold JS
  cases hw:xI (s.length+1) s with
  | none=>
    rw[hw] at hm;have hm:r.2.2=true:=hm;show (!r.2.2)=false;rw[hm];rfl
  | some l=>
    rw[hw] at hm;obtain⟨h1,h2⟩:r.1=[]++l∧r.2.2=false:=hm;show (r.1,!r.2.2)=(l,true);rw[h1,h2];rfl
theorem Y3: ∀(n:Nat) (s:pM) (l:List Wd),xI n s=some l→∀w∈l,AI s.length w
  |0,_,_,h=>by cases h
  | n+1,s,l,h=>by
    rw[xI] at h;split at h
    .cases h;intro w hw;cases hw
    split at h
    .cases h
    rename_i w hw
    cases ht:s.dropWhile tK with
    |nil=>rename_i h0 _;exact absurd ht h0
    | cons b t=>
      rw[ht] at hw;have hlt:=a7Z (w:=w.1) (r:=w.2) (MG ht) hw;have hok:=(aN4 (w:=w.1) (r:=w.2) (MG ht) hw).1;have hle:=S6 tK s;rw[ht] at hle
      have mono: ∀{a b:Nat}{x:Wd},a≤b→AI a x→AI b x:=fun hab hx=>by
        unfold AI at hx|-;split
        .rename_i h1;rw[aSn h1] at hx;exact hx
        rename_i h1;rw[aSo h1] at hx;exact⟨pQ,hx.2⟩
      cases hl:xI n w.2 with
      |none=>rw[hl] at h;cases h
      | some l'=>
        rw[hl] at h;cases h;intro x hx;rcases aSC.1 hx with rfl|hx
        .exact mono hle hok
        exact mono pQ (Y3 n w.2 l' hl x hx)
theorem aGe: ∀(n:Nat) (s:pM) (l:List Wd),xI n s=some l→s.dropWhile tK≠[]→l≠[]
  |0,_,_,h,_=>by cases h
  | n+1,s,l,h,hne=>by
    rw[xI,aSo hne] at h;split at h
    .cases h
    rename_i w hw
    cases hl:xI n w.2 with
    |none=>rw[hl] at h;cases h
    |some l'=>rw[hl] at h;cases h;simp
end
noncomputable section
abbrev tW:Ty:= .pair .bool (.pair .str .unit)
def D5:pM:=[99,97,116,97,108,111,103]
def FU:pM:=[101,110,116,114,121]
def uX:pM:=[99,111,109,109,101,110,116]
def uF:pM:=[115,111,117,114,99,101]
def uG:pM:=[116,97,114,103,101,116]
def yK:pM:=[115,116,97,116,101]
def wO:pM:=[102,105,101,108,100]
def MH:pM:=[101,110,100]
def xJ:pM:=[102,108,97,103,115]
inductive wX where
  |bad
  |cont (t:pM)
  |beg (head:Bool) (t:pM)
  |com (t:pM)
  |src (t:pM)
  |tgt (t:pM)
  |sta (v:Int)
  |fld (n v:pM)
  |flg (l:pN)
  |fin
def tM:List Wd→Option pM
  |[w]=>if w.1=true then some w.2.1 else none
  |_=>none
def HW:List Wd→Option Int
  |[w]=>if w.1=false∧0≤AE w.2.1 then some (AE w.2.1) else none
  |_=>none
def ES:List Wd→Option (pM×pM)
  |[a,b]=>if (a.1=true∧b.1=true)∧w9 a.2.1=true then some (a.2.1,b.2.1) else none
  |_=>none
def t8 (l:List Wd):pN:=l.map (·.2.1)
def HY (w:Wd):Bool:=w.1|| !w9 w.2.1
def uY (k:pM) (r:List Wd):wX:=
  if k=D5 then((tM r).map (wX.beg true)).getD .bad
  else if k=FU then((tM r).map (wX.beg false)).getD .bad
  else if k=uX then((tM r).map wX.com).getD .bad
  else if k=uF then((tM r).map wX.src).getD .bad
  else if k=uG then((tM r).map wX.tgt).getD .bad
  else if k=yK then((HW r).map wX.sta).getD .bad
  else if k=wO then((ES r).map fun q=>wX.fld q.1 q.2).getD .bad
  else if k=MH then(if r=[] then .fin else .bad)
  else if k=xJ then(if r=[]∨(r.any HY)=true then .bad else .flg (t8 r))
  else .bad
def BF:List Wd→wX
  |[]=> .bad
  |w::r=>if w.1=true then(if (r.any fun x=> !x.1)=true then .bad else .cont (t8 (w::r)).flatten) else uY w.2.1 r
theorem S7 {l:List Wd}{i:Nat}(h:i<l.length):qT tW l (i:Int)=l[i]:=OQ h
theorem aOa (w:Wd) (r:List Wd):((decide (((w::r).length:Int)=(2:Int)))&&(qT tW (w::r) (1:Int)).1)=(tM r).isSome:=by
  match r with
  |[]=>rfl
  | [a]=>
    show (true&&a.1)=_;unfold tM;cases h:a.1<;>simp [h]
  | a::b::t=>
    have:decide (((w::a::b::t).length:Int)=2)=false:=decide_eq_false (by simp only[aSt];omega);rw[this];rfl
def FV (l:pN):Bool:=decide ((Lib.compact (uB l)).length<(uB l).length)
theorem aOb {l:pN}(h:FV l=false):(uB l).Pairwise (· < ·):=by
  unfold FV at h;have h1: ¬(Lib.compact (uB l)).length<(uB l).length:=of_decide_eq_false h;generalize hs:uB l=s at h1;have hpw:s.Pairwise (·≤·):=by rw[←hs];exact aNS l
  have h2:((List.range s.length).filter (Lib.keeps s.toArray)).length=(List.range s.length).length:=by
    have h3:(Lib.compact s).length=((List.range s.length).filter (Lib.keeps s.toArray)).length:=by
      unfold Lib.compact Lib.compactUpTo;rw[aTV]
    have h4:=List.length_filter_le (Lib.keeps s.toArray) (List.range s.length);rw[List.length_range] at h4|-;omega
  have h3:=List.length_filter_eq_length_iff.1 h2;refine a7T (r:=fun a b:pM=>a<b) (fun a b c=>List.lt_trans) fun i hi=>?_;have hk:=h3 (i+1) (aT1.2 hi)
  have hne:s[i+1]≠s[i]:=by
    intro e
    have:=Lib.keeps_neg (d:=s.toArray) (m:=i+1) pQ (by
      rw[Nat.add_sub_cancel,getElem!_pos s.toArray (i+1) (by simpa using hi),getElem!_pos s.toArray i pT];simpa using e)
    rw[this] at hk;cases hk
  have hle:s[i]≤s[i+1]:=aTa.1 hpw i (i+1) pQ hi pQ;exact a7U (a:=s[i+1]) (b:=s[i]) (fun hlt=>hle hlt) hne
end
noncomputable section
structure St where
  c:C4
  ends:pW
  id:pM
  sc:pM
  tg:pM
  cm:pN
  fg:pN
  sv:Int
  fd:List sX
  op:Bool
  bs:Bool
  bt:Bool
  bh:Bool
  bf:Bool
  last:pM
  name:pM
abbrev St.x (s:St):t7:=(s.id,(s.sc,(s.tg,(s.cm,(s.fg,(s.sv,(s.fd,())))))))
def yM (s:St) (c:C4) (t:pM):St:=⟨c,s.ends,t,[],[],[],[],0,[],true,false,false,false,false,[],[]⟩
def uO (c:C4) (ends:pW):St:=⟨c,ends,[],[],[],[],[],0,[],false,false,false,false,false,[],[]⟩
def C1 (s:St):pM:=if s.last=uX then s.cm.getLastD [] else if s.last=uF then s.sc else if s.last=uG then s.tg else(HP s.fd s.name).1
def zI (s:St) (z:pM):St:=
  if s.last=uX then {s with cm:=s.cm.dropLast++[z]} else if s.last=uF then {s with sc:=z} else if s.last=uG then {s with tg:=z} else {s with fd:=yI s.fd s.name z}
def sM (s:St) (next:Int):wX→Int×St
  | .bad=>(3,s)
  | .cont t=>if s.op=false∨s.last=[] then(3,s) else if sK (C1 s++t)=true then(0,zI s (C1 s++t)) else(3,s)
  | .beg true t=>if s.op=true∨s.ends≠[] then(3,s) else if xH t=true then(0,yM s (t,s.c.2) t) else(3,s)
  | .beg false t=>if s.op=true∨s.ends=[] then(3,s) else if t=[]∨200<t.length then(3,s) else if (s.c.2.2.2.1.any fun y=>decide (y.1=t))=true then(9,s) else if 1000≤s.c.2.2.2.1.length then(6,s) else(0,yM s s.c t)
  | .com t=>if s.op=false then(3,s) else if 20≤s.cm.length then(6,s) else(0,{s with cm:=s.cm++[t],last:=uX,name:=[]})
  | .src t=>if s.op=false∨s.ends=[] then(3,s) else if s.bs=true then(9,s) else(0,{s with sc:=t,bs:=true,last:=uF,name:=[]})
  | .tgt t=>if s.op=false∨s.ends=[] then(3,s) else if s.bt=true then(9,s) else(0,{s with tg:=t,bt:=true,last:=uG,name:=[]})
  | .sta v=>if s.op=false∨s.ends=[] then(3,s) else if s.bh=true then(9,s) else(0,{s with sv:=v,bh:=true,last:=[],name:=[]})
  | .flg l=>if s.op=false∨s.ends=[] then(3,s) else if s.bf=true∨FV l=true then(9,s) else if 20<l.length then(6,s) else(0,{s with fg:=uB l,bf:=true,last:=[],name:=[]})
  | .fld n v=>if s.op=false then(3,s) else if (s.fd.any fun y=>decide (y.1=n))=true then(9,s) else if 20≤s.fd.length then(6,s) else(0,{s with fd:=yI s.fd n v,last:=wO,name:=n})
  | .fin=>if s.op=false then(3,s) else(0,uO (if s.ends=[] then(s.c.1,(s.cm,(s.fd,s.c.2.2.2))) else(s.c.1,(s.c.2.1,(s.c.2.2.1,(s.c.2.2.2.1++[s.x],()))))) (s.ends++[next]))
def C2 (s:pM):Bool:=decide (s.dropWhile tK=[])||decide ((s.dropWhile tK).head? =some 35)
def tZ (s:St) (line:pM) (next:Int):Int×St:=
  if C2 line=true then(0,s) else match JS line with
    |none=>(3,s)
    |some l=>sM s next (BF l)
structure zJ (s:St):Prop where
  tag:s.ends≠[]∨s.op=true→xH s.c.1=true
  hcm:wM s.c.2.1=true
  hfd:wA s.c.2.2.1=true
  es:a7W s.c.2.2.2.1
  e0:s.ends=[]→s.c.2.2.2.1=[]
  en:s.ends≠[]→s.ends.length=s.c.2.2.2.1.length+1
  room:s.op=true→s.ends≠[]→s.c.2.2.2.1.length<1000
  sc:sK s.sc=true
  tg:sK s.tg=true
  cm:wM s.cm=true
  fg:FR s.fg=true
  sv:0≤s.sv∧s.sv≤4
  fd:wA s.fd=true
  id:s.op=true→s.ends≠[]→s.id≠[]∧s.id.length≤200∧sK s.id=true∧∀y∈s.c.2.2.2.1,y.1≠s.id
  lcm:s.last=uX→s.cm≠[]
  lfd:s.last=wO→(s.fd.any fun y=>decide (y.1=s.name))=true
  lst:s.last=[]∨s.last=uX∨s.last=uF∨s.last=uG∨s.last=wO
  off:s.op=false→s.last=[]
def Y4 (n:Nat):wX→Prop
  | .cont t=>t.length≤n
  | .beg _ t=>sK t=true
  | .com t=>sK t=true
  | .src t=>sK t=true
  | .tgt t=>sK t=true
  | .sta v=>0≤v∧v≤4
  | .fld n v=>w9 n=true∧sK v=true
  | .flg l=>l≠[]∧l.length≤n∧∀x∈l,w9 x=true
  |_=>True
theorem aOc (s:pM):AE s≤4:=by
  unfold AE;cases h:BC.findIdx? fun x=>decide (x=s) with
  |none=>show (-1:Int)≤4;decide
  | some k=>
    have:=(aTx.1 h).1;show (k:Int)≤4;unfold BC at this;simp only[aSt,aSF] at this;omega
theorem S8: ∀(n:Nat) (s:pM) (l:List Wd),xI n s=some l→(t8 l).flatten.length≤s.length∧l.length≤s.length
  |0,_,_,h=>by cases h
  | n+1,s,l,h=>by
    rw[xI] at h;split at h
    .cases h;exact⟨aTo _,aTo _⟩
    split at h
    .cases h
    rename_i h0 _ w hw
    cases ht:s.dropWhile tK with
    |nil=>exact absurd ht h0
    | cons b t=>
      rw[ht] at hw;have hg:=MG ht;have hle:=S6 tK s;rw[ht] at hle;have hlt:=a7Z (w:=w.1) (r:=w.2) hg hw
      have hs:w.1.2.1.length+w.2.length≤(b::t).length:=by
        unfold AH at hw;split at hw
        · split at hw
          .cases hw
          rename_i k hk
          split at hw
          · cases hw
            have h1:=aF2 2 (((b::t).drop 1).take k);have h2:=XZ _ _ _ (aSJ _) hk;show (wN 2 (((b::t).drop 1).take k)).1.length+((b::t).drop (k+2)).length≤(b::t).length;simp only[aS0,aSW,aSt] at h1 h2|-;omega
          cases hw
        split at hw
        .cases hw
        cases hw
        have:=aSM List.length (List.takeWhile_append_dropWhile (p:=tU) (l:=b::t));rw[aSp] at this;exact aTU this
      cases hl:xI n w.2 with
      |none=>rw[hl] at h;cases h
      | some l'=>
        rw[hl] at h;cases h;have ih:=S8 n w.2 l' hl;constructor
        · show (w.1.2.1++(t8 l').flatten).length≤_
          rw[aSp];omega
        rw[aSt];omega
theorem aGf {n:Nat}{r:List Wd}{t:pM}(h: ∀w∈r,AI n w) (ho:tM r=some t):sK t=true:=by
  unfold tM at ho;split at ho
  · rename_i w
    split at ho
    · rename_i hw
      cases ho;have:=h w pS;unfold AI at this;rw[aSn hw] at this;exact this
    cases ho
  cases ho
theorem aOd {n:Nat}{l:List Wd}(h: ∀w∈l,AI n w) (h1:(t8 l).flatten.length≤n) (h2:l.length≤n):Y4 n (BF l):=by
  cases l with
  |nil=>exact trivial
  | cons w r=>
    have hr: ∀w∈r,AI n w:=fun x hx=>h x (aSy _ hx);unfold BF;dsimp only;split
    · split
      .exact trivial
      exact h1
    unfold uY
    have one: ∀(f:pM→wX),(∀t,sK t=true→Y4 n (f t))→Y4 n (((tM r).map f).getD .bad):=fun f hf=>by
      cases ho:tM r with
      |none=>exact trivial
      |some t=>exact hf t (aGf hr ho)
    split
    .exact one _ fun t ht=>ht
    split
    .exact one _ fun t ht=>ht
    split
    .exact one _ fun t ht=>ht
    split
    .exact one _ fun t ht=>ht
    split
    .exact one _ fun t ht=>ht
    split
    · cases ho:HW r with
      |none=>exact trivial
      | some v=>
        unfold HW at ho;split at ho
        · split at ho
          · rename_i hv
            cases ho;exact⟨hv.2,aOc _⟩
          cases ho
        cases ho
    split
    · cases ho:ES r with
      |none=>exact trivial
      | some q=>
        unfold ES at ho;split at ho
        · rename_i a b
          split at ho
          · rename_i hv
            cases ho;have hb:=hr b pS;unfold AI at hb;rw[aSn hv.1.2] at hb;exact⟨hv.2,hb⟩
          cases ho
        cases ho
    split
    .split<;>exact trivial
    split
    · split
      .exact trivial
      rename_i hn
      simp only[not_or,aTC] at hn;refine⟨by unfold t8;simpa using hn.1,by unfold t8;rw[aTV];simp only[aSt] at h2;omega,fun x hx=>?_⟩;unfold t8 at hx;obtain⟨w',hw',rfl⟩:=List.mem_map.1 hx;have:=aS7.1 hn.2 w' hw';unfold HY at this;simpa using(fun h=>this (by rw[h];simp): ¬(!w9 w'.2.1)=true)
    exact trivial
end
noncomputable section
theorem aOe {l:pN}(h:wM l=true):l.length≤20:=(JQ h).1
theorem aGg {l:List sX}(h:wA l=true):l.length≤20:=(JR h).1
theorem aOf {l:List sX}{n:pM}(h:wA l=true):sK (HP l n).1=true:=by
  unfold HP;cases hk:y5 l n with
  |none=>rfl
  | some k=>
    have hlt:=XP hk;show sK (l.getD k ([],[],())).2.1=true;rw[aSO,aSv hlt];exact((JR h).2.1 _ (aTB hlt)).2.2
theorem aOg {s:St}(h:zJ s):sK (C1 s)=true:=by
  unfold C1;split
  · have hc:=JQ h.cm
    cases hl:s.cm.getLast? with
    |none=>rw[List.getLastD_eq_getLast?,hl];rfl
    |some x=>rw[List.getLastD_eq_getLast?,hl];exact hc.2 x (List.mem_of_getLast? hl)
  split
  .exact h.sc
  split
  .exact h.tg
  exact aOf h.fd
end
noncomputable section
theorem aOh {α:Type}{l:List α}:decide ((l.length:Int)=0)=decide (l=[]):=by cases l<;>simp<;>omega
theorem aOi {s:St}(h:zJ s):s.ends.length≤1001:=by
  have:=h.es.len;by_cases he:s.ends=[]
  .rw[he];exact aTo _
  rw[h.en he];omega
end
noncomputable section
theorem S9 {l:List sX}{n v:pM}(h:(l.any fun y=>decide (y.1=n))=false):yI l n v=l.take (uD l n)++[(n,v,())]++l.drop (uD l n):=by
  have:y5 l n=none:=by
    unfold y5;rw[aTu];intro x hx;have:=aS7.1 h x hx;simpa using this
  unfold yI;rw[this];rfl
theorem aGh (l:List sX) (n v:pM):((yI l n v).any fun y=>decide (y.1=n))=true:=by
  unfold yI;cases hk:y5 l n with
  | none=>
    show ((l.take (uD l n)++[(n,v,())]++l.drop (uD l n)).any _)=true;rw[List.any_append,List.any_append];simp
  | some k=>
    have hlt:=XP hk;show ((l.set k (n,v,())).any _)=true;rw[List.any_eq_true];exact⟨(n,v,()),List.mem_set hlt _,by simp⟩
theorem aOj {l:List sX}{n v:pM}(h:wA l=true) (hn:(l.any fun y=>decide (y.1=n))=true) (hv:sK v=true):wA (yI l n v)=true:=by
  obtain⟨h1,h2,h3⟩:=JR h;unfold yI;cases hk:y5 l n with
  | none=>
    unfold y5 at hk;rw[aTu] at hk;obtain⟨x,hx,hxn⟩:=List.any_eq_true.1 hn;have:=hk x hx;rw[hxn] at this;cases this
  | some k=>
    have hlt:=XP hk;have hkn:=aNi hk hlt;show wA (l.set k (n,v,()))=true;refine aF7 (by rw[List.length_set];exact h1) (fun x hx=>?_) ?_
    · rcases List.mem_or_eq_of_mem_set hx with hx|rfl
      .exact⟨(h2 x hx).1,(h2 x hx).2.2⟩
      exact⟨by show w9 n=true;rw[←hkn];exact(h2 _ (aTB hlt)).1,hv⟩
    rw[aTa] at h3|-
    intro i j hi hj hij;rw[List.length_set] at hi hj
    have e: ∀m (hm:m<l.length),((l.set k (n,v,()))[m]'(by rw[List.length_set];exact hm)).1=(l[m]).1:=fun m hm=>by
      rw[List.getElem_set];split
      .rename_i hkm;subst hkm;exact hkn.symm
      rfl
    rw[e i hi,e j hj];exact h3 i j hi hj hij
theorem aOk {l:pN}{t:pM}(h:wM l=true) (hl:l.length<20) (ht:sK t=true):wM (l++[t])=true:=by
  obtain⟨_,h2⟩:=JQ h;unfold wM;rw[aS1 (by rw[aSp];simp only[aSt,aSF];omega),Bool.true_and,aSR,List.any_append];have:(l.any fun x=> !sK x)=false:=aS7.2 fun x hx=>by rw[h2 x hx];simp
  rw[this];simp [ht]
theorem aOl {l:pN}{t:pM}(h:wM l=true) (hl:l≠[]) (ht:sK t=true):wM (l.dropLast++[t])=true:=by
  obtain⟨h1,h2⟩:=JQ h;have hpos:=aTm.2 hl;unfold wM;rw[aS1 (by rw[aSp,List.length_dropLast];simp only[aSt,aSF];omega),Bool.true_and,aSR,List.any_append];have:(l.dropLast.any fun x=> !sK x)=false:=aS7.2 fun x hx=>by rw[h2 x (List.dropLast_subset _ hx)];simp
  rw[this];simp [ht]
theorem aOm {l:pN}(hl:l.length≤20) (h1: ∀x∈l,w9 x=true) (h2:l.Pairwise (· < ·)):FR l=true:=by
  unfold FR;rw[aS1 pQ,Bool.and_true,aSR];rw[aS7];intro i hi;have hi:=aT1.1 hi;unfold XT;have hd:l.getD i []=l[i]:=by rw[aSO,aSv hi];rfl
  rw[hd,h1 _ (aTB hi)];by_cases h0:0<i
  · have hd2:l.getD (i-1) []=l[i-1]:=by rw[aSO,aSv pQ];rfl
    rw[hd2,FS,aS1 (aTa.1 h2 (i-1) i pQ hi pQ)];simp
  simp [h0]
theorem aOn {s:St}(h:zJ s) (h1:s.op=true) (h2:s.ends≠[]):BD s.x=true:=by
  obtain⟨i1,i2,i3,_⟩:=h.id h1 h2;unfold BD;dsimp only[St.x];rw[decide_eq_false i1,aS1 (show (s.id.length:Int)≤200 by omega),i3,h.sc,h.tg,h.cm,h.fg,aS1 h.sv.1,aS1 h.sv.2,h.fd];rfl
theorem vD:uX≠[]∧uF≠[]∧uG≠[]∧wO≠[]∧uF≠uX∧uG≠uX∧wO≠uX∧uX≠wO∧uF≠wO∧uG≠wO:=by decide
theorem aOo (s:St) (z:pM):(zI s z).c=s.c∧(zI s z).ends=s.ends∧(zI s z).id=s.id∧(zI s z).fg=s.fg∧(zI s z).sv=s.sv∧(zI s z).op=s.op∧(zI s z).bs=s.bs∧(zI s z).bt=s.bt∧(zI s z).bh=s.bh∧(zI s z).bf=s.bf∧(zI s z).last=s.last∧(zI s z).name=s.name:=by
  unfold zI;split
  .exact⟨rfl,rfl,rfl,rfl,rfl,rfl,rfl,rfl,rfl,rfl,rfl,rfl⟩
  split
  .exact⟨rfl,rfl,rfl,rfl,rfl,rfl,rfl,rfl,rfl,rfl,rfl,rfl⟩
  split<;>exact⟨rfl,rfl,rfl,rfl,rfl,rfl,rfl,rfl,rfl,rfl,rfl,rfl⟩
theorem aOp {s:St}(h:zJ s) (hl:s.last≠[]) {z:pM}(hz:sK z=true):zJ (zI s z):=by
  unfold zI;split
  · rename_i h1
    exact {h with cm:=aOl h.cm (h.lcm h1) hz,lcm:=fun _=>pS}
  split
  .exact {h with sc:=hz}
  split
  .exact {h with tg:=hz}
  rename_i h1 h2 h3
  have h4:s.last=wO:=by
    rcases h.lst with h5|h5|h5|h5|h5
    .exact absurd h5 hl
    .exact absurd h5 h1
    .exact absurd h5 h2
    .exact absurd h5 h3
    exact h5
  exact {h with fd:=aOj h.fd (h.lfd h4) hz,lfd:=fun _=>aGh _ _ _}
theorem SA:0≤(0:Int)∧(0:Int)≤4:=by decide
theorem aOq {s:St}(h:zJ s) {n:Nat}{c:wX}(hc:Y4 n c) (next:Int) (h0:(sM s next c).1=0):zJ (sM s next c).2:=by
  cases c with
  |bad=>cases h0
  | cont t=>
    rw[sM] at h0|-;split at h0
    .cases h0
    · rename_i h1
      rw[aSo h1];rw[not_or] at h1;split at h0
      · rename_i h2
        rw[aSn h2];exact aOp h h1.2 h2
      .cases h0
  | beg hd t=>
    cases hd with
    | true=>
      rw[sM] at h0|-;split at h0
      .cases h0
      · rename_i h1
        rw[aSo h1];simp only[not_or,Decidable.not_not] at h1;split at h0
        · rename_i h2
          rw[aSn h2];exact {tag:=fun _=>h2,hcm:=h.hcm,hfd:=h.hfd,es:=h.es,e0:=h.e0,en:=h.en,room:=fun _ he=>absurd h1.2 he,sc:=rfl,tg:=rfl,cm:=rfl,fg:=rfl,sv:=SA,fd:=rfl,id:=fun _ he=>absurd h1.2 he,lcm:=fun he=>(vD.1 he.symm).elim,lfd:=fun he=>(vD.2.2.2.1 he.symm).elim,lst:= .inl rfl,off:=fun he=>(by cases he)}
        .cases h0
    | false=>
      rw[sM] at h0|-;split at h0
      .cases h0
      · rename_i h1
        rw[aSo h1];rw[not_or] at h1;split at h0
        .cases h0
        · rename_i h2
          rw[aSo h2];rw[not_or] at h2;split at h0
          .cases h0
          · rename_i h3
            rw[aSo h3];split at h0
            .cases h0
            · rename_i h4
              rw[aSo h4];refine {tag:=fun _=>h.tag (.inl h1.2),hcm:=h.hcm,hfd:=h.hfd,es:=h.es,e0:=h.e0,en:=h.en,room:=fun _ _=>(by show s.c.2.2.2.1.length<1000;omega),sc:=rfl,tg:=rfl,cm:=rfl,fg:=rfl,sv:=SA,fd:=rfl,id:=fun _ _=>⟨h2.1,(by show t.length≤200;omega),hc,fun y hy e=>h3 (List.any_eq_true.2 ⟨y,hy,aS1 (show y.1=t from e)⟩)⟩,lcm:=fun he=>(vD.1 he.symm).elim,lfd:=fun he=>(vD.2.2.2.1 he.symm).elim,lst:= .inl rfl,off:=fun he=>(by cases he)}
  | com t=>
    rw[sM] at h0|-;split at h0
    .cases h0
    · rename_i h1
      rw[aSo h1];split at h0
      .cases h0
      · rename_i h2
        rw[aSo h2];exact {h with cm:=aOk h.cm pQ hc,lcm:=fun _=>pS,lfd:=fun he=>(vD.2.2.2.2.2.2.2.1 he).elim,lst:= .inr (.inl rfl),off:=fun he=>absurd he h1}
  | src t=>
    rw[sM] at h0|-;split at h0
    .cases h0
    · rename_i h1
      rw[aSo h1];rw[not_or] at h1;split at h0
      .cases h0
      · rename_i h2
        rw[aSo h2];exact {h with sc:=hc,lcm:=fun he=>(vD.2.2.2.2.1 he).elim,lfd:=fun he=>(vD.2.2.2.2.2.2.2.2.1 he).elim,lst:= .inr (.inr (.inl rfl)),off:=fun he=>absurd he h1.1}
  | tgt t=>
    rw[sM] at h0|-;split at h0
    .cases h0
    · rename_i h1
      rw[aSo h1];rw[not_or] at h1;split at h0
      .cases h0
      · rename_i h2
        rw[aSo h2];exact {h with tg:=hc,lcm:=fun he=>(vD.2.2.2.2.2.1 he).elim,lfd:=fun he=>(vD.2.2.2.2.2.2.2.2.2 he).elim,lst:= .inr (.inr (.inr (.inl rfl))),off:=fun he=>absurd he h1.1}
  | sta v=>
    rw[sM] at h0|-;split at h0
    .cases h0
    · rename_i h1
      rw[aSo h1];rw[not_or] at h1;split at h0
      .cases h0
      · rename_i h2
        rw[aSo h2];exact {h with sv:=hc,lcm:=fun he=>(vD.1 he.symm).elim,lfd:=fun he=>(vD.2.2.2.1 he.symm).elim,lst:= .inl rfl,off:=fun _=>rfl}
  | fld m v=>
    rw[sM] at h0|-;split at h0
    .cases h0
    · rename_i h1
      rw[aSo h1];split at h0
      .cases h0
      · rename_i h2
        rw[aSo h2];split at h0
        .cases h0
        · rename_i h3
          rw[aSo h3];exact {h with fd:=aNZ h.fd h3 hc.1 hc.2 h2,lcm:=fun he=>(vD.2.2.2.2.2.2.1 he).elim,lfd:=fun _=>aGh _ _ _,lst:= .inr (.inr (.inr (.inr rfl))),off:=fun he=>absurd he h1}
  | flg l=>
    rw[sM] at h0|-;split at h0
    .cases h0
    · rename_i h1
      rw[aSo h1];rw[not_or] at h1;split at h0
      .cases h0
      · rename_i h2
        rw[aSo h2];rw[not_or] at h2;split at h0
        .cases h0
        · rename_i h3
          rw[aSo h3];have hd:FV l=false:=by simpa using h2.2
          exact {h with fg:=aOm (by rw[S5];omega) (fun x hx=>hc.2.2 x ((aF3 l).mem_iff.1 hx)) (aOb hd),lcm:=fun he=>(vD.1 he.symm).elim,lfd:=fun he=>(vD.2.2.2.1 he.symm).elim,lst:= .inl rfl,off:=fun _=>rfl}
  | fin=>
    rw[sM] at h0|-;split at h0
    .cases h0
    rename_i h1
    have hop:s.op=true:=by simpa using h1
    rw[aSo h1];have htag:=h.tag (.inr hop);by_cases he:s.ends=[]
    · rw[aSn he]
      exact {tag:=fun _=>htag,hcm:=h.cm,hfd:=h.fd,es:=h.es,e0:=fun hh=>(by simp [uO] at hh),en:=fun _=>(by show (s.ends++[next]).length=s.c.2.2.2.1.length+1;rw[he,h.e0 he];rfl),room:=fun hh=>(by cases hh),sc:=rfl,tg:=rfl,cm:=rfl,fg:=rfl,sv:=SA,fd:=rfl,id:=fun hh=>(by cases hh),lcm:=fun hh=>(vD.1 hh.symm).elim,lfd:=fun hh=>(vD.2.2.2.1 hh.symm).elim,lst:= .inl rfl,off:=fun _=>rfl}
    rw[aSo he]
    have hr:=h.room hop he;obtain⟨i1,i2,i3,i4⟩:=h.id hop he;refine {tag:=fun _=>htag,hcm:=h.hcm,hfd:=h.hfd,es:=⟨?_,?_,?_⟩,e0:=fun hh=>(by simp [uO] at hh),en:=fun _=>?_,room:=fun hh=>(by cases hh),sc:=rfl,tg:=rfl,cm:=rfl,fg:=rfl,sv:=SA,fd:=rfl,id:=fun hh=>(by cases hh),lcm:=fun hh=>(vD.1 hh.symm).elim,lfd:=fun hh=>(vD.2.2.2.1 hh.symm).elim,lst:= .inl rfl,off:=fun _=>rfl}
    · show (s.c.2.2.2.1++[s.x]).length≤1000
      rw[aSp];simp only[aSt,aSF];omega
    · intro x hx
      rcases aTc.1 (show x∈s.c.2.2.2.1++[s.x] from hx) with hx|hx
      .exact h.es.ok x hx
      rw[aSI.1 hx];exact aOn h hop he
    · show (s.c.2.2.2.1++[s.x]).Pairwise _
      rw[aUs];exact⟨h.es.pw,aUn _ _,fun a ha b hb=>by rw[aSI.1 hb];exact i4 a ha⟩
    show (s.ends++[next]).length=(s.c.2.2.2.1++[s.x]).length+1
    rw[aSp,aSp,h.en he];rfl
def tO:St:=uO ([],([],([],([],())))) []
theorem aOr:zJ tO:={tag:=fun h=>h.elim (fun h=>absurd rfl h) fun h=>(by cases h),hcm:=rfl,hfd:=rfl,es:=⟨aTo _,fun x hx=>(by cases hx),List.Pairwise.nil⟩,e0:=fun _=>rfl,en:=fun h=>absurd rfl h,room:=fun h=>(by cases h),sc:=rfl,tg:=rfl,cm:=rfl,fg:=rfl,sv:=SA,fd:=rfl,id:=fun h=>(by cases h),lcm:=fun h=>(vD.1 h.symm).elim,lfd:=fun h=>(vD.2.2.2.1 h.symm).elim,lst:= .inl rfl,off:=fun _=>rfl}
theorem aGi {s:St}(h:zJ s) (line:pM) (next:Int) (h0:(tZ s line next).1=0):zJ (tZ s line next).2:=by
  unfold tZ at h0|-;split at h0
  · rename_i h1
    rw[aSn h1];exact h
  rename_i h1
  rw[aSo h1];cases hw:JS line with
  |none=>rw[hw] at h0;cases h0
  | some l=>
    rw[hw] at h0;exact aOq h (aOd (n:=line.length) (Y3 _ _ _ hw) (S8 _ _ _ hw).1 (S8 _ _ _ hw).2) next h0
end
noncomputable section
def tS (p:pM):pM:=if p.getLast? =some 10 then p.dropLast else p
theorem OU {r:List Wd}{t:pM}(h:tM r=some t):r=[(true,t,())]:=by
  unfold tM at h;split at h
  · rename_i w
    split at h
    · rename_i hw
      cases h;obtain⟨a,b,c⟩:=w;cases hw;rfl
    cases h
  cases h
theorem aGj {k:pM}{r:List Wd}{t:pM}(ho:tM r=some t):
    uY D5 r= .beg true t∧uY FU r= .beg false t∧uY uX r= .com t∧uY uF r= .src t∧uY uG r= .tgt t:=by
  have e1:FU≠D5∧uX≠D5∧uF≠D5∧uG≠D5∧uX≠FU∧uF≠FU∧uG≠FU∧uF≠uX∧uG≠uX∧uG≠uF:=by decide
  obtain⟨a1,a2,a3,a4,a5,a6,a7,a8,a9,a10⟩:=e1;refine⟨?_,?_,?_,?_,?_⟩<;>unfold uY
  .rw[aSn rfl,ho];rfl
  .rw[aSo a1,aSn rfl,ho];rfl
  .rw[aSo a2,aSo a5,aSn rfl,ho];rfl
  .rw[aSo a3,aSo a6,aSo a8,aSn rfl,ho];rfl
  rw[aSo a4,aSo a7,aSo a9,aSo a10,aSn rfl,ho];rfl
end
noncomputable section
def tJ (s:pM) (i:Nat):Nat:=if 0≤Lib.indexByte (s.drop i) 10 then i+(Lib.indexByte (s.drop i) 10).toNat+1 else s.length
theorem Y5 {s:pM}{i:Nat}(h:i<s.length):i<tJ s i∧tJ s i≤s.length:=by
  have hr:=NS (s.drop i) 10;rw[aSW] at hr;unfold tJ;split<;>omega
theorem aOs {s:pM}{a i:Nat}(hai:a≤i) (hi:i<s.length) (hno: ∀j (h:j<s.length),a≤j→j<i→s[j]≠10) (h10:s[i]=10):((s.drop a).findIdx? fun b=>decide (b=10))=some (i-a):=by
  rw[aTx];refine⟨by rw[aSW];omega,?_,fun j hj=>?_⟩
  · rw[List.getElem_drop]
    simp only[aSx];rw[←h10];congr 1;omega
  rw[List.getElem_drop]
  simp only[aSx];exact hno (a+j) pQ pQ pQ
theorem aOt {s:pM}{a:Nat}(hno: ∀j (h:j<s.length),a≤j→s[j]≠10):((s.drop a).findIdx? fun b=>decide (b=10))=none:=by
  rw[aTu];intro x hx;obtain⟨j,hj,rfl⟩:=aT5 hx;rw[List.getElem_drop];simp only[aS2];rw[aSW] at hj;exact hno (a+j) pQ pQ
theorem aOu {s:pM}{a i:Nat}(hai:a≤i) (hi:i<s.length) (hno: ∀j (h:j<s.length),a≤j→j<i→s[j]≠10) (h10:s[i]=10):tJ s a=i+1:=by
  unfold tJ;rw[a7R,aOs hai hi hno h10];rw[show MF (some (i-a))=((i-a:Nat):Int) from rfl,aSn pQ,aTi];omega
theorem aOv {s:pM}{a:Nat}(hno: ∀j (h:j<s.length),a≤j→s[j]≠10):tJ s a=s.length:=by
  unfold tJ;rw[a7R,aOt hno];exact aSo pR
def FW (s:pM) (a:Nat):pM:=(s.drop a).take (tJ s a-a)
def FX (s:pM):Nat→St→Nat→(Nat×Int)⊕St
  |0,st,_=> .inr st
  | n +1,st,a=>if a<s.length then
      (if (tZ st (tS (FW s a)) (tJ s a:Nat)).1=0 then FX s n (tZ st (tS (FW s a)) (tJ s a:Nat)).2 (tJ s a) else .inl (a,(tZ st (tS (FW s a)) (tJ s a:Nat)).1))
    else .inr st
def JT (s:pM):(Nat×Int)⊕St:=match FX s (s.length+1) tO 0 with
  | .inl q=> .inl q
  | .inr st=>if st.op=true∨st.ends=[] then .inl (s.length,3) else .inr st
end
noncomputable section
def ET (l:List sX):List sX:=l.foldl (fun acc f=>yI acc f.1 f.2.1) []
theorem OV (l:List sX) (n v:pM):ET (l++[(n,v,())])=yI (ET l) n v:=by
  unfold ET;rw[List.foldl_append];rfl
theorem aOw {l:List sX}{n v:pM}(h:(l.any fun y=>decide (y.1=n))=false):(yI l n v).Perm (l++[(n,v,())]):=by
  rw[S9 h];have h1:(l.take (uD l n)++l.drop (uD l n))=l:=aTz _ _
  have h2:(l.take (uD l n)++[(n,v,())]++l.drop (uD l n)).Perm (l.take (uD l n)++(l.drop (uD l n)++[(n,v,())])):=by
    rw[aSB];exact List.Perm.append_left _ List.perm_append_comm
  have h3:l.take (uD l n)++(l.drop (uD l n)++[(n,v,())])=l++[(n,v,())]:=by rw[←aSB,h1]
  rw[h3] at h2;exact h2
theorem SB {l l':List sX}(h:l.Perm l') (n:pM):(l.any fun y=>decide (y.1=n))=l'.any fun y=>decide (y.1=n):=h.any_eq
theorem OW {l:List sX}{n v:pM}:((l++[(n,v,())]).map (·.1)).Nodup↔(l.map (·.1)).Nodup∧(l.any fun y=>decide (y.1=n))=false:=by
  rw[List.map_append,List.nodup_append];constructor
  · rintro⟨h1,_,h3⟩
    refine⟨h1,aS7.2 fun x hx=>?_⟩;have:=h3 x.1 (List.mem_map.2 ⟨x,hx,rfl⟩) n pS;simpa using this
  rintro⟨h1,h2⟩
  refine⟨h1,by simp,fun a ha b hb=>?_⟩;obtain⟨x,hx,rfl⟩:=List.mem_map.1 ha;have hb:b=n:=by simpa using hb
  have:=aS7.1 h2 x hx;rw[hb];simpa using this
theorem aGk {α:Type}{P:List α→Prop}(h0:P []) (h1: ∀l x,P l→P (l++[x])) (l:List α):P l:=by
  have: ∀n (l:List α),l.length=n→P l:=by
    intro n
    induction n with
    |zero=>intro l hl;rw[aTj.1 hl];exact h0
    | succ n ih=>
      intro l hl;have hne:l≠[]:=fun e=>by rw[e] at hl;cases hl
      rw[←List.dropLast_concat_getLast hne];exact h1 _ _ (ih _ (by rw[List.length_dropLast,hl];rfl))
  exact this _ l rfl
theorem OX: ∀l:List sX,(l.map (·.1)).Nodup→(ET l).Perm l:=by
  refine aGk (fun _=>List.Perm.refl _) fun l x ih h=>?_;obtain⟨n,v,u⟩:=x;obtain⟨h1,h2⟩:=OW.1 h;rw[OV];have hp:=ih h1;exact(aOw (by rw[SB hp];exact h2)).trans (hp.append_right _)
theorem a73: ∀l:List sX,(l.map (·.1)).Nodup→(ET l).Pairwise (fun a b=>a.1<b.1):=by
  refine aGk (fun _=>List.Pairwise.nil) fun l x ih h=>?_;obtain⟨n,v,u⟩:=x;obtain⟨h1,h2⟩:=OW.1 h;rw[OV];have hp:=OX l h1;have ha:((ET l).any fun y=>decide (y.1=n))=false:=by rw[SB hp];exact h2
  have hne: ∀y∈ET l,y.1≠n:=fun y hy=>by simpa using aS7.1 ha y hy
  rw[S9 ha];unfold uD;refine a7V (fun y:sX=>y.1) (x:=(n,v,())) (ih h1) hne fun y hy=>?_;rw[FS];have:decide (y.1=n)=false:=by simpa using hne y hy
  rw[this,Bool.or_false]
theorem aGl {l:List sX}{n v z:pM}(h:(l.any fun y=>decide (y.1=n))=false) (hl:l.Pairwise (fun a b=>a.1<b.1)):yI (yI l n v) n z=yI l n z∧HP (yI l n v) n=(v,true):=by
  have hk1:uD l n≤l.length:=aNh l n;have hne: ∀y∈l,y.1≠n:=fun y hy=>by simpa using aS7.1 h y hy
  have hlen:(l.take (uD l n)).length=uD l n:=by rw[aS0];omega
  have hk:y5 (l.take (uD l n)++[(n,v,())]++l.drop (uD l n)) n=some (uD l n):=by
    unfold y5;rw[aSB,List.findIdx?_append]
    have:((l.take (uD l n)).findIdx? fun x=>decide (x.1=n))=none:=by
      rw[aTu];intro x hx;simpa using hne x (List.mem_of_mem_take hx)
    rw[this,hlen,aUe,aTZ];simp
  constructor
  · rw[S9 h,S9 h]
    unfold yI;rw[hk];show (l.take (uD l n)++[(n,v,())]++l.drop (uD l n)).set (uD l n) (n,z,())=_;rw[aSB,List.set_append_right _ _ pQ,hlen,aTT];simp
  rw[S9 h]
  unfold HP;rw[hk];show ((((l.take (uD l n)++[(n,v,())]++l.drop (uD l n)).getD (uD l n) ([],[],())).2.1,true):pM×Bool)=(v,true);rw[aSO,aSB,aSw pQ,hlen,aTT];rfl
theorem aOx {l:List sX}(h:(l.map (·.1)).Nodup) (hl:l.length≤1000):Bs.blocks_sorted l=some (ET l,l.length):=by
  have hcol:Bs.slices_Collect_api_Field_api_Field_F1 l=some l:=by
    have hfold: ∀(m acc:List sX),m.length+acc.length≤1000→Vc.FC Bs.slices_AppendSeq_api_Field_api_Field_F1_step1 m acc=some (.inl (acc++m)):=by
      intro m
      induction m with
      |nil=>intro acc _;show some (Sum.inl acc)=_;rw[List.append_nil]
      | cons x m ih=>
        intro acc ha;simp only[aSt] at ha
        have hst:Bs.slices_AppendSeq_api_Field_api_Field_F1_step1 x acc=some (.inl (acc++[x])):=by
          unfold Bs.slices_AppendSeq_api_Field_api_Field_F1_step1;rw[aSn (by simp only[aSt,aSF];omega)]
        show (Bs.slices_AppendSeq_api_Field_api_Field_F1_step1 x acc).bind _=_;rw[hst,aSq];show Vc.FC Bs.slices_AppendSeq_api_Field_api_Field_F1_step1 m (acc++[x])=_;rw[ih _ (by rw[aSp];simp only[aSt,aSF];omega),aSB];rfl
    unfold Bs.slices_Collect_api_Field_api_Field_F1 Bs.slices_AppendSeq_api_Field_api_Field_F1;rw[aSn pQ];have:=hfold l [] (by simpa using hl);rw[show QV l=l from rfl,this];unfold uS;rfl
  have hs:vK l=ET l:=by
    obtain⟨h1,h2⟩:=aCk l
    have hp:(vK l).Perm l:=by
      have:=h1.2.2
      have e1:(vK l).toArray.extract 0 l.length=(vK l).toArray:=by
        rw[show l.length=(vK l).toArray.size from(WB l).symm];simp
      have e2:l.toArray.extract 0 l.length=l.toArray:=by
        rw[show l.length=l.toArray.size by simp];simp
      rw[e1,e2] at this;simpa using this
    have hp2:=OX l h
    have hpw:(vK l).Pairwise (fun a b=> ¬b.1<a.1):=by
      rw[aTa];intro i j hi hj hij;have hx:=h2 i j (aTo _) hij (by rw[WB] at hj;exact hj);rw[getElem!_pos (vK l).toArray i (by simpa using hi),getElem!_pos (vK l).toArray j (by simpa using hj)] at hx;simp only[List.getElem_toArray] at hx;intro hlt;unfold ltOf DF at hx;exact of_decide_eq_false hx ((a1M _ _).2 hlt)
    have hnd:((vK l).map (·.1)).Nodup:=(hp.map _).nodup_iff.2 h
    have hpw2:(vK l).Pairwise (fun a b=>a.1<b.1):=by
      rw[aTa] at hpw|-;intro i j hi hj hij;refine a7U (hpw i j hi hj hij) fun e=>?_;have:=aTa.1 (List.nodup_iff_pairwise_ne.1 hnd) i j (by simpa using hi) (by simpa using hj) hij;rw[List.getElem_map,List.getElem_map] at this;exact this e.symm
    exact(hp.trans hp2.symm).eq_of_pairwise (fun a b _ _ h1 h2=>absurd h2 (List.lt_asymm h1)) hpw2 (a73 l h)
  unfold Bs.blocks_sorted Bs.slices_SortedFunc_api_Field_api_Field_F1_blocks_sortedF1;rw[hcol,aSq,aSn pQ,aSq,hs]
theorem a74 {l:List Wd}{p:pM}{i:Nat}(h:i<l.length) (hp:i<p.length) (hl:l.length≤10):O4 l p (i:Int)=if (l[i].1==decide (p[i]=115))=true then some (.inl ((i:Int)+1)) else some (.inr (.inr false)):=by
  unfold O4;rw[aSn (wV h),aSn (uV h),aSn (uV hp),S7 h,OR hp,D3 (n:=115) 115 rfl,aSn (yH pQ)];cases(l[i].1==decide (p[i]=115))<;>rfl
theorem aGm {l:List Wd}{p:pM}:O4 l p (l.length:Int)=some (.inr (.inl ())):=by
  unfold O4;rw[aSo (BB _)]
theorem Y6 (l:List Wd) (c:UInt8):yF l [c]=some (match l with|[a]=>a.1==decide (c=115) |_=>false):=by
  match l with
  |[]=>unfold yF;rfl
  | [a]=>
    unfold yF;rw[aSo pS,show ((0:Int))=((0:Nat):Int) from rfl,uN,a74 (l:=[a]) (p:=[c]) (i:=0) pS pS pS];show uS (Option.bind (if (a.1==decide (c=115))=true then _ else _) _) _=some (a.1==decide (c=115));cases(a.1==decide (c=115)) with
    |false=>rfl
    | true=>
      rw[aSn rfl,aSq];dsimp only;rw[show (((0:Nat):Int)+1)=(([a]:List Wd).length:Int) from rfl,uN,aGm];rfl
  | a::b::t=>
    unfold yF;rw[aSn (by simp only[aSR,aS2,aSt,aSF];omega)]
theorem aOy (l:List Wd):yF l [115,115]=some (match l with|[a,b]=>a.1&&b.1|_=>false):=by
  match l with
  |[]=>unfold yF;rfl
  |[a]=>unfold yF;rfl
  | [a,b]=>
    unfold yF;rw[aSo pS,show ((0:Int))=((0:Nat):Int) from rfl,uN,a74 (l:=[a,b]) (p:=[115,115]) (i:=0) pS pS pS];show uS (Option.bind (if (a.1==true)=true then _ else _) _) _=some (a.1&&b.1);cases a.1 with
    |false=>rfl
    | true=>
      rw[aSn (show (true==true)=true from rfl),aSq];dsimp only;rw[show (((0:Nat):Int)+1)=((1:Nat):Int) from rfl,uN,a74 (l:=[a,b]) (p:=[115,115]) (i:=1) pS pS pS];show uS (Option.bind (if (b.1==true)=true then _ else _) _) _=some (true&&b.1);cases b.1 with
      |false=>rfl
      | true=>
        rw[aSn (show (true==true)=true from rfl),aSq];dsimp only;rw[show (((1:Nat):Int)+1)=(([a,b]:List Wd).length:Int) from rfl,uN,aGm];rfl
  | a::b::c::t=>
    unfold yF;rw[aSn (by simp only[aSR,aS2,aSt,aSF];omega)]
theorem a78 (l:List Wd):yF l [115]=some (tM l).isSome:=by
  rw[Y6];unfold tM
  match l with
  |[]=>rfl
  |[a]=>cases h:a.1<;>simp [h]
  |a::b::t=>rfl
end
noncomputable section
abbrev Mp:=pU
structure Pg where
  c:C4
  pl:Int
  id:pM
  sc:pM
  tg:pM
  fg:pN
  sv:Int
  ap:Nat
  ends:pW
  cm:Option pN
  n1:Nat
  fl:Option (List sX)
  n2:Nat
  seen:Mp
  ids:Mp
def JU (k:pM):Nat:=if k=uF then 1 else if k=uG then 2 else if k=uX then 3 else if k=wO then 4 else 0
structure DK (s:St) (P:Pg):Prop where
  c:P.c=s.c
  ends:P.ends=s.ends
  pl:P.pl=if s.op=true then(if s.ends=[] then 1 else 3) else(if s.ends=[] then 0 else 2)
  x:s.op=true→P.sc=s.sc∧P.tg=s.tg∧P.fg=s.fg∧P.sv=s.sv∧P.cm=some s.cm
  id:s.op=true→s.ends≠[]→P.id=s.id
  fl:s.op=true→∃l,P.fl=some l∧ET l=s.fd∧(l.map (·.1)).Nodup∧(s.last=wO→∃l' v,l=l'++[(s.name,v,())])
  ap:P.ap=JU s.last
  seen:s.op=true→sP .str .bool P.seen uF=s.bs∧sP .str .bool P.seen uG=s.bt∧sP .str .bool P.seen yK=s.bh∧sP .str .bool P.seen xJ=s.bf
  ids: ∀t,sP .str .bool P.ids t=((s.c.2.2.2.1.any fun y=>decide (y.1=t))||((s.op&&decide (s.ends≠[]))&&decide (s.id=t)))
  live:s.op=true∨s.ends≠[]
abbrev JV:=Int×pM×pN×(List r5)×(List t7)×Int×pM×pM×pM×pN×Int×Nat×pW×pU×(Option pN)×Nat×(Option (List r5))×Nat×pU
def a79 (v:JV):Pg:=
  ⟨(v.2.1,(v.2.2.1,(v.2.2.2.1,(v.2.2.2.2.1,())))),v.2.2.2.2.2.1,v.2.2.2.2.2.2.1,v.2.2.2.2.2.2.2.1,v.2.2.2.2.2.2.2.2.1,v.2.2.2.2.2.2.2.2.2.1,v.2.2.2.2.2.2.2.2.2.2.1,v.2.2.2.2.2.2.2.2.2.2.2.1,v.2.2.2.2.2.2.2.2.2.2.2.2.1,v.2.2.2.2.2.2.2.2.2.2.2.2.2.2.1,v.2.2.2.2.2.2.2.2.2.2.2.2.2.2.2.1,v.2.2.2.2.2.2.2.2.2.2.2.2.2.2.2.2.1,v.2.2.2.2.2.2.2.2.2.2.2.2.2.2.2.2.2.1,v.2.2.2.2.2.2.2.2.2.2.2.2.2.2.2.2.2.2,v.2.2.2.2.2.2.2.2.2.2.2.2.2.1⟩
def C3 (A:Option JV) (r:Int×St):Prop:= ∃v,A=some v∧v.1=r.1∧(r.1=0→DK r.2 (a79 v))
theorem vE {A:Option JV}{e:Int}{s:St}{v:JV}(h:A=some v) (he:v.1=e) (hne:e≠0):C3 A (e,s):=⟨v,h,he,fun h0=>absurd h0 hne⟩
theorem FY {A:Option JV}{s:St}{v:JV}(h:A=some v) (he:v.1=0) (hr:DK s (a79 v)):C3 A (0,s):=⟨v,h,he,fun _=>hr⟩
theorem SC:JU uX=3:=by decide
theorem SD:JU uF=1:=by decide
theorem SE:JU uG=2:=by decide
theorem SF:JU wO=4:=by decide
theorem MI:JU []=0:=by decide
theorem aGn {s:St}(h:zJ s):JU s.last=0↔s.last=[]:=by
  constructor
  · intro h0
    rcases h.lst with e|e|e|e|e
    .exact e
    .rw[e,SC] at h0;cases h0
    .rw[e,SD] at h0;cases h0
    .rw[e,SE] at h0;cases h0
    rw[e,SF] at h0;cases h0
  intro h0;rw[h0];exact MI
theorem aGo {l:List Wd}(hl:l.length≤1100000000) {sc tg:pM}{o1:Option pN}{n1:Nat}{o2:Option (List sX)}{n2:Nat}: ∀(n i:Nat) (a:pM),i+n=l.length→a.length+(t8 (l.drop i)).flatten.length≤9000000000000000000→
    sC (OF sc tg l o1 n1 o2 n2) (a,(i:Int))=some (if ((l.drop i).any fun x=> !x.1)=true then .inr (3,sc,tg,o1,n1,o2,n2) else .inl (a++(t8 (l.drop i)).flatten))
  | 0,i,a,hi,_=>by
    have:i=l.length:=by omega
    subst this;rw[aTs,uN];unfold OF;dsimp only;rw[aSo (BB _),aSo pS];show some (Sum.inl a)=some (Sum.inl (a++[]));rw[List.append_nil]
  | n+1,i,a,hi,hb=>by
    have hlt:i<l.length:=by omega
    have h2:(t8 (l.drop i)).flatten=l[i].2.1++(t8 (l.drop (i+1))).flatten:=by
      unfold t8;rw[aS4 hlt,aTw,aTh]
    rw[h2,aSp] at hb;rw[uN];generalize hF:sC (OF sc tg l o1 n1 o2 n2)=F;unfold OF;dsimp only;rw[aSn (wV hlt),aSn (uV hlt),S7 hlt,h2,aS4 hlt,List.any_cons];cases hq:l[i].1 with
    |false=>rfl
    | true=>
      rw[aSo pS,aSn (by rw[aSp];omega),aSn (yH pQ),aSq];dsimp only;rw[←hF,show ((i:Int)+1)=((i+1:Nat):Int) by omega,aGo hl n (i+1) _ pQ (by rw[aSp];omega),aSB];rfl
def a8a (P:Pg) (l:List Wd):Option JV:=
    (zX P.c P.pl P.id P.sc P.tg P.fg P.sv P.ap (P.ends,()) l P.cm P.n1 P.fl P.n2 P.seen P.ids).bind fun O=>
    some ((O.1,P.c.1,P.c.2.1,P.c.2.2.1,P.c.2.2.2.1,P.pl,P.id,O.2.1,O.2.2.1,P.fg,P.sv,P.ap,P.ends,P.ids,O.2.2.2.1,O.2.2.2.2.1,O.2.2.2.2.2.1,O.2.2.2.2.2.2,P.seen))
theorem aOz {α:Type}{l:List α}{z:α}(h:l≠[]):l.set (l.length-1) z=l.dropLast++[z]:=by
  have hpos:=aTm.2 h
  conv=>lhs;rw[←List.dropLast_concat_getLast h]
  rw[List.set_append_right _ _ (by rw[List.length_dropLast];simp [List.length_dropLast])];simp [List.length_dropLast]
theorem aOA {s:St}(h:zJ s) {P:Pg}(hr:DK s P) {l:List Wd}(hl:l.length≤1100000000) (ht:(t8 l).flatten.length≤1100000000) (next:Int):
    C3 (a8a P l) (if (l.any fun x=> !x.1)=true then(3,s) else sM s next (.cont (t8 l).flatten)):=by
  have hct:=AG (aOg h);have hlp:=aGo (sc:=P.sc) (tg:=P.tg) (o1:=P.cm) (n1:=P.n1) (o2:=P.fl) (n2:=P.n2) hl l.length 0 [] pQ (by rw[aTG,aSF];omega);rw[aTG] at hlp;unfold a8a zX;rw[show ((0:Int))=((0:Nat):Int) from rfl,hlp];by_cases ha:(l.any fun x=> !x.1)=true
  · rw[aSn ha,aSn ha]
    exact vE rfl rfl pR
  rw[aSo ha,aSo ha]
  unfold uS;rw[aSq];dsimp only;rw[List.nil_append];have h64:((3:Int))=3:=rfl;rw[sM];by_cases hla:s.last=[]
  · have hap:P.ap=0:=by rw[hr.ap];exact(aGn h).2 hla
    rw[aSo (by rw[hap];simp),aSn rfl,aSn (.inr hla)];exact vE rfl rfl pR
  have hap:P.ap≠0:=fun e=>hla ((aGn h).1 (by rw[←hr.ap];exact e))
  have hop:s.op=true:=by
    cases ho:s.op with
    |true=>rfl
    |false=>exact absurd (h.off ho) hla
  obtain⟨x1,x2,x3,x4,x5⟩:=hr.x hop;obtain⟨fl,f1,f2,f3,f4⟩:=hr.fl hop;rw[aSn (by rw[decide_eq_false hap];rfl),x5,f1,aSq,aSq,aSo (by rw[hop];simp [hla])]
  have hcur:KL P.ap P.sc P.tg (F2 s.cm) (IA fl)=C1 s:=by
    rw[hr.ap,x1,x2];unfold KL C1;rcases h.lst with e|e|e|e|e
    .exact absurd e hla
    · rw[e,SC,aSo pR,aSo pR,aSn rfl,aSn rfl]
      unfold F2;have hpos:=aTm.2 (h.lcm e);rw[aSO,List.getLastD_eq_getLast?,List.getLast?_eq_getElem?]
    .rw[e,SD,aSn rfl,aSo pR,aSn rfl]
    .rw[e,SE,aSo pR,aSn rfl,aSo pR,aSo pR,aSn rfl]
    obtain⟨l',v,e2⟩:=f4 e
    rw[e,SF,aSo pR,aSo pR,aSo pR,aSo pR,aSo pR,aSo pR,←f2,e2,OV];rw[e2] at f3;obtain⟨g1,g2⟩:=OW.1 f3;rw[(aGl (v:=v) (z:=v) (by rw[SB (OX l' g1)];exact g2) (a73 l' g1)).2];unfold IA;simp
  unfold AT;rw[hcur];dsimp only;have hfit:sO (C1 s++(t8 l).flatten):=by unfold sO;rw[aSp];omega
  rw[aSn (fun _=>hap),aSn (fun _=>by rw[aSp];omega),aSn (fun _=>by rw[ME _ hfit];rfl),decide_eq_false hap,Bool.false_or];have hto:((decide (((C1 s++(t8 l).flatten).length:Int)≤(4000:Int)))&&(Lib.validD (C1 s++(t8 l).flatten)))=sK (C1 s++(t8 l).flatten):=rfl;rw[hto];cases htx:sK (C1 s++(t8 l).flatten) with
  |false=>exact vE rfl rfl pR
  | true=>
    rw[aSo pS,aSn rfl];refine FY rfl rfl ?_;obtain⟨k1,k2,k3,k4,k5,k6,k7,k8,k9,k10,k11,k12⟩:=aOo s (C1 s++(t8 l).flatten);generalize hz:C1 s++(t8 l).flatten=z at*;have hap':=hr.ap;refine {c:=hr.c.trans k1.symm,ends:=hr.ends.trans k2.symm,pl:= ?_,x:=fun _=>?_,id:=fun _ he=>?_,fl:=fun _=>?_,ap:=hr.ap.trans (by rw[k11]),seen:=fun _=>?_,ids:=fun t=>?_,live:= ?_}
    .rw[k6,k2];exact hr.pl
    · show KM (true&&decide (P.ap=1)) z P.sc=_∧KM (true&&decide (P.ap=2)) z P.tg=_∧P.fg=_∧P.sv=_∧some (F3 (true&&decide (P.ap=3)) z s.cm)=some _
      rw[k4,k5,hap',x1,x2];unfold zI;rcases h.lst with e|e|e|e|e
      .exact absurd e hla
      · rw[aSn e,e,SC]
        refine⟨rfl,rfl,x3,x4,?_⟩;have:=aOz (z:=z) (h.lcm e);unfold F3;rw[aSn qE,this]
      · rw[aSo (by rw[e];decide),aSn e,e,SD]
        exact⟨rfl,rfl,x3,x4,rfl⟩
      · rw[aSo (by rw[e];decide),aSo (by rw[e];decide),aSn e,e,SE]
        exact⟨rfl,rfl,x3,x4,rfl⟩
      rw[aSo (by rw[e];decide),aSo (by rw[e];decide),aSo (by rw[e];decide),e,SF]
      exact⟨rfl,rfl,x3,x4,rfl⟩
    .rw[k3];rw[k2] at he;exact hr.id hop he
    · show∃l,some (F4 (true&&decide (4≤P.ap)) z fl)=some l∧_
      rw[k11,k12,hap'];refine⟨_,rfl,?_⟩;unfold zI;rcases h.lst with e|e|e|e|e
      .exact absurd e hla
      · rw[aSn e,e,SC]
        exact⟨f2,f3,fun h0=>absurd h0 vD.2.2.2.2.2.2.2.1⟩
      · rw[aSo (by rw[e];decide),aSn e,e,SD]
        exact⟨f2,f3,fun h0=>absurd h0 vD.2.2.2.2.2.2.2.2.1⟩
      · rw[aSo (by rw[e];decide),aSo (by rw[e];decide),aSn e,e,SE]
        exact⟨f2,f3,fun h0=>absurd h0 vD.2.2.2.2.2.2.2.2.2⟩
      obtain⟨l',v,e2⟩:=f4 e
      rw[aSo (by rw[e];decide),aSo (by rw[e];decide),aSo (by rw[e];decide),e,SF]
      have hset:F4 (true&&decide (4≤4)) z fl=l'++[(s.name,z,())]:=by
        unfold F4;rw[aSn qE,e2];have hg:(l'++[(s.name,v,())]).getD ((l'++[(s.name,v,())]).length-1) ([],[],())=(s.name,v,()):=by simp
        rw[hg];simp
      rw[hset];rw[e2] at f3;obtain⟨g1,g2⟩:=OW.1 f3;refine⟨?_,OW.2 ⟨g1,g2⟩,fun _=>⟨l',z,rfl⟩⟩;rw[OV,←f2,e2,OV];exact(aGl (by rw[SB (OX l' g1)];exact g2) (a73 l' g1)).1.symm
    .rw[k7,k8,k9,k10];exact hr.seen hop
    .rw[k1,k2,k3,k6];exact hr.ids t
    rw[k2,k6];exact hr.live
end
noncomputable section
theorem aGp (v:pM):EC BC v=some (AE v):=by
  rw[aNd BC v (by unfold sO;decide)];unfold AE;simp only[eq_comm]
theorem aOB (v:pM):HE BC v=some (decide (0≤AE v)):=by
  unfold HE;rw[aGp];rfl
theorem xK {α:Type}{w:α}{r:List α}:0≤(0:Int)∧(0:Int)<((w::r).length:Int):=⟨aTq _,by simp only[aSt];omega⟩
section
variable (c:sQ) (pl:Int) (id sc tg:pM) (fg:pN) (sv:Int) (en:pW×Unit) (r:List Wd) (cm:pN) (fl:List r5) (seen ids:Mp)
theorem aOC (h:cm.length≤20):CV c pl id sc tg fg sv en r cm fl seen ids=some (match tM r with|none=>(3,0,cm) |some t=>if cm.length=20 then(6,0,cm) else(0,3,cm++[t])):=by
  unfold CV;rw[a78,aSq];cases ho:tM r with
  |none=>rfl
  | some t=>
    rw[OU ho,aSo pS];dsimp only;by_cases h2:cm.length=20
    .rw[aSn pT,aSn h2]
    have hn:qT rE [(true,t,())] (0:Int)=(true,t,()):=rfl
    rw[aSo pT,aSo h2,aSn xK,aSn (by simp only[aSt,aSF];omega),hn,aSn (by rw[aSp];simp only[aSt,aSF];unfold qP;omega),aSn (by rw[aSp];simp only[aSt,aSF];omega)]
theorem aOD (h:fl.length≤20):sO fl:=by unfold sO;omega
theorem aOE (h:fl.length≤20):CY c pl id sc tg fg sv en r cm fl seen ids=some (match ES r with|none=>(3,0,fl) |some q=>if (fl.any fun y=>decide (y.1=q.1))=true then(9,0,fl) else if fl.length=20 then(6,0,fl) else(0,4,fl++[(q.1,q.2,())])):=by
  unfold CY;rw[aOy,aSq]
  match r with
  |[]=>rfl
  |[a]=>rfl
  | [a,b]=>
    have hn0:qT rE [a,b] (0:Int)=a:=rfl;have hn1:qT rE [a,b] (1:Int)=b:=rfl;have hp1:0≤(1:Int)∧(1:Int)<(List.length [a,b]:Int):=by simp
    rw[hn0,hn1,XN];dsimp only;rw[aSn (fun _=>xK),aSn (fun _=>Option.isSome_some)];show (if ((!(a.1&&b.1))||(!w9 a.2.1))=true then _ else _)=_
    have hf:ES [a,b]=if (a.1=true∧b.1=true)∧w9 a.2.1=true then some (a.2.1,b.2.1) else none:=rfl;by_cases hc:(a.1=true∧b.1=true)∧w9 a.2.1=true
    · rw[hf,aSn hc]
      obtain⟨⟨h1,h2⟩,h3⟩:=hc;rw[aSo (by rw[h1,h2,h3];simp),aSn xK,aNg _ _ (aOD fl h),aSq,aNe];dsimp only;by_cases h4:(fl.any fun y=>decide (y.1=a.2.1))=true
      .rw[aSn h4,aSn h4]
      rw[aSo h4,aSo h4]
      by_cases h5:fl.length=20
      .rw[aSn pT,aSn h5]
      rw[aSo pT,aSo h5,aSn xK,aSn hp1,aSn (by simp only[aSt,aSF];omega),aSn (by rw[aSp];simp only[aSt,aSF];unfold qP;omega),aSn (by rw[aSp];simp only[aSt,aSF];omega)]
    .rw[hf,aSo hc,aSn (by
        cases h1:a.1<;>cases h2:b.1<;>cases h3:w9 a.2.1<;>first|rfl|exact absurd ⟨⟨h1,h2⟩,h3⟩ hc)]
  |a::b::d::t=>rfl
theorem aGq:EG c pl id sc tg fg sv en r cm fl seen ids=some (match tM r with|none=>(3,sc,0,seen) |some t=>if sP .str .bool seen uF=true then(9,sc,0,sY .str .bool uF true seen) else(0,t,1,sY .str .bool uF true seen)):=by
  unfold EG HC;rw[a78,aSq];cases ho:tM r with
  |none=>rfl
  | some t=>
    have hn:qT rE [(true,t,())] (0:Int)=(true,t,()):=rfl;rw[OU ho,aSo pS];dsimp only;show Option.bind (if sP .str .bool seen uF=true then _ else _) _=_;by_cases h2:sP .str .bool seen uF=true
    .rw[aSn h2,aSn h2];rfl
    rw[aSo h2,aSo h2,aSn xK,hn];rfl
theorem aGr:EH c pl id sc tg fg sv en r cm fl seen ids=some (match tM r with|none=>(3,tg,0,seen) |some t=>if sP .str .bool seen uG=true then(9,tg,0,sY .str .bool uG true seen) else(0,t,2,sY .str .bool uG true seen)):=by
  unfold EH HD;rw[a78,aSq];cases ho:tM r with
  |none=>rfl
  | some t=>
    have hn:qT rE [(true,t,())] (0:Int)=(true,t,()):=rfl;rw[OU ho,aSo pS];dsimp only;show Option.bind (if sP .str .bool seen uG=true then _ else _) _=_;by_cases h2:sP .str .bool seen uG=true
    .rw[aSn h2,aSn h2];rfl
    rw[aSo h2,aSo h2,aSn xK,hn];rfl
theorem aGs:FN c pl id sc tg fg sv en r cm fl seen ids=some (match HW r with|none=>(3,sv,seen) |some v=>if sP .str .bool seen yK=true then(9,sv,sY .str .bool yK true seen) else(0,v,sY .str .bool yK true seen)):=by
  unfold FN
  match r with
  |[]=>rw[Y6];rfl
  | [a]=>
    have hst:yF [a] [112]=some (!a.1):=by rw[Y6];cases h:a.1<;>simp [h]
    rw[hst,aSq];have hn:qT rE [a] (0:Int)=a:=rfl;rw[hn,show HE ([([110,101,119]:pM),([102,117,122,122,121]:pM),([116,114,97,110,115,108,97,116,101,100]:pM),([114,101,118,105,101,119,101,100]:pM),([111,98,115,111,108,101,116,101]:pM)]:pN) a.2.1=some (decide (0≤AE a.2.1)) from aOB a.2.1];rw[show EC ([([110,101,119]:pM),([102,117,122,122,121]:pM),([116,114,97,110,115,108,97,116,101,100]:pM),([114,101,118,105,101,119,101,100]:pM),([111,98,115,111,108,101,116,101]:pM)]:pN) a.2.1=some (AE a.2.1) from aGp a.2.1];have hf:HW [a]=if a.1=false∧0≤AE a.2.1 then some (AE a.2.1) else none:=rfl;rw[hf];cases ha:a.1 with
    |true=>rfl
    | false=>
      rw[aSn (show ((!(!false))==false)=true from rfl),aSn (fun _=>xK),aSn (fun _=>Option.isSome_some)];by_cases hs:0≤AE a.2.1
      · rw[aSo (show¬((!(!false))||(!(val (some (decide (0≤AE a.2.1))))))=true by rw[aS1 hs];decide),aSn (show false=false∧0≤AE a.2.1 from⟨rfl,hs⟩)]
        show (if sP .str .bool seen yK=true then _ else _)=_;dsimp only;by_cases h2:sP .str .bool seen yK=true
        .rw[aSn h2,aSn h2];rfl
        rw[aSo h2,aSo h2,aSn xK];rfl
      .rw[aSn (show ((!(!false))||(!(val (some (decide (0≤AE a.2.1))))))=true by rw[decide_eq_false hs];decide),aSo (show¬(false=false∧0≤AE a.2.1) from fun h=>hs h.2)]
  |a::b::t=>rw[Y6];rfl
theorem aGt {r:List Wd}(hl:r.length≤1100000000): ∀(n i:Nat),i+n=r.length→sC (LV r) ((i:Int),t8 (r.take i))=some (t8 r)
  | 0,i,hi=>by
    have:i=r.length:=by omega
    subst this;rw[List.take_length,uN];unfold LV;dsimp only;rw[aSo (BB _)];rfl
  | n+1,i,hi=>by
    have hlt:i<r.length:=by omega
    have hlen:(t8 (r.take i)).length=i:=by unfold t8;rw[aTV,aS0];omega
    have htk:t8 (r.take i)++[r[i].2.1]=t8 (r.take (i+1)):=by
      unfold t8;rw[List.take_succ_eq_append_getElem hlt,List.map_append];rfl
    rw[uN];generalize hF:sC (LV r)=F;unfold LV;dsimp only;rw[aSn (wV hlt),aSn (uV hlt),S7 hlt,hlen,aSn (by simp only[aSt,aSF];omega),aSn (yH pQ),aSq];dsimp only;rw[htk,←hF,show ((i:Int)+1)=((i+1:Nat):Int) by omega];exact aGt hl n (i+1) pQ
theorem aOF {r:List Wd}(hl:r.length≤1100000000):J7 r=some (r.any HY):=by
  unfold J7 OA
  rw[RY (l:=r) HY (fun k=>(k:Int)) (fun i h=>by
    unfold WX RA;rw[aSn (wV h),aSn (uV h),S7 h,XN,aSn (fun _=>Option.isSome_some),aSq,aSn (yH pQ)];rfl) (by
    unfold WX;rw[aSo (BB _)]),XO,aSq,aFK]
theorem aOG (hl:r.length≤1100000000):FL c pl id sc tg fg sv en r cm fl seen ids=some (if r=[]∨(r.any HY)=true then(3,fg,seen) else if sP .str .bool seen xJ=true∨FV (t8 r)=true then(9,fg,sY .str .bool xJ true seen) else if 20<(t8 r).length then(6,fg,sY .str .bool xJ true seen) else(0,uB (t8 r),sY .str .bool xJ true seen)):=by
  have hlp:=aGt hl r.length 0 pQ;have hwl:(t8 r).length=r.length:=by unfold t8;rw[aTV]
  unfold FL;rw[aOF hl,aSn (fun _=>Option.isSome_some),aOh];show (if (decide (r=[])||r.any HY)=true then _ else _)=_
  by_cases h1:r=[]∨(r.any HY)=true
  .rw[aSn h1,aSn (by rcases h1 with h1|h1<;>simp [h1])]
  rw[aSo h1,aSo (by rw[not_or] at h1;simpa using h1)]
  have hlp':sC (LV r) ((0:Int),([]:pN))=some (t8 r):=hlp;rw[hlp'];unfold uA;rw[aSq,aSn pQ]
  have hcl:EE (uB (t8 r))=some (uB (t8 r)):=by
    unfold EE;rw[aSn (by rw[S5];omega),List.nil_append]
  show (if ((sP .str .bool seen xJ)==false)=true then _ else _)=_;cases hf:sP .str .bool seen xJ with
  | true=>
    rw[aSo pS,aSn rfl,aSn (.inl rfl)];rfl
  | false=>
    rw[aSn qE,hcl,aSn (fun _=>Option.isSome_some)];rw[aSn (show (sP .str .bool seen ([102,108,97,103,115]:pM)==false)=true→List.length (val (some (uB (t8 r))))≤9223372036854775807 from fun _=>by show (uB (t8 r)).length≤_;rw[S5];omega)];show (if (sP .str .bool seen xJ||(decide (((((Lib.compact (uB (t8 r))).length):Nat):Int)<((uB (t8 r)).length:Int))))=true then _ else _)=_
    have hd:decide (((((Lib.compact (uB (t8 r))).length):Nat):Int)<((uB (t8 r)).length:Int))=FV (t8 r):=by
      unfold FV;exact aTX.2 pQ
    rw[hd,hf,Bool.false_or];by_cases h2:FV (t8 r)=true
    .rw[aSn h2,aSn (.inr h2)];rfl
    rw[aSo h2,aSo (show¬(false=true∨FV (t8 r)=true) by simp [h2])]
    by_cases h3:20<(t8 r).length
    .rw[aSn h3,aSn (by rw[S5];simp only[aSx];omega)];rfl
    rw[aSo h3,aSo (by rw[S5];simp only[aSx];omega)];rfl
end
theorem aOH (k:pM):FK k=if k=uX then(some 117,true) else if k=wO then(some 118,true) else(if k=xJ then some 122 else if k=yK then some 121 else if k=uG then some 120 else if k=uF then some 119 else none,false):=by
  unfold FK;by_cases h1:k=uX
  .rw[aSn h1,show decide (k=([99,111,109,109,101,110,116]:pM))=true from aS1 h1,aSn rfl]
  rw[aSo h1,show decide (k=([99,111,109,109,101,110,116]:pM))=false from decide_eq_false h1,aSo pS]
  by_cases h2:k=wO
  .rw[aSn h2,show decide (k=([102,105,101,108,100]:pM))=true from aS1 h2,aSn rfl]
  rw[aSo h2,show decide (k=([102,105,101,108,100]:pM))=false from decide_eq_false h2,aSo pS,wW,wW,wW,wW]
  rfl
end
noncomputable section
def MJ (P:Pg) (l:List Wd) (nx:Int):Option JV:=
    if ((decide (P.pl=(0:Int)))||(decide (P.pl=(2:Int))))=true then
     (wL P.c P.pl P.id P.sc P.tg P.fg P.sv (P.ends,()) l P.cm P.n1 P.fl P.n2 P.seen P.ids).bind fun v82=>
     some ((v82.1,v82.2.1,P.c.2.1,P.c.2.2.1,P.c.2.2.2.1,v82.2.2.1,v82.2.2.2.1,v82.2.2.2.2.1,v82.2.2.2.2.2.1,v82.2.2.2.2.2.2.1,v82.2.2.2.2.2.2.2.1,0,P.ends,v82.2.2.2.2.2.2.2.2.1,v82.2.2.2.2.2.2.2.2.2.1,v82.2.2.2.2.2.2.2.2.2.2.1,v82.2.2.2.2.2.2.2.2.2.2.2.1,v82.2.2.2.2.2.2.2.2.2.2.2.2.1,v82.2.2.2.2.2.2.2.2.2.2.2.2.2))
    else
     if 0≤(0:Int)∧(0:Int)<(l.length:Int) then
      if (decide ((qT rE l (0:Int)).2.1=([101,110,100]:pM)))=true then
       P.cm.bind fun O=>
       P.fl.bind fun Z=>
       if 0≤(1:Int)∧(1:Int)≤(l.length:Int)∧(l.length:Int)≤(l.length:Int) then
        (yS P.c P.pl P.id P.sc P.tg P.fg P.sv (P.ends,()) (rV l (1:Int) (l.length:Int)) nx O Z P.seen P.ids).bind fun v88=>
        some ((v88.1,P.c.1,v88.2.1,v88.2.2.1,v88.2.2.2.1,v88.2.2.2.2.1,P.id,P.sc,P.tg,P.fg,P.sv,0,v88.2.2.2.2.2.1,P.ids,v88.2.2.2.2.2.2.1,(O.length),v88.2.2.2.2.2.2.2.1,v88.2.2.2.2.2.2.2.2,P.seen))
       else none
      else
       if 0≤(0:Int)∧(0:Int)<(l.length:Int) then
        AT (FK ((qT rE l (0:Int)).2.1)) fun v89=>
        if ((yW v89.1)||((decide (P.pl=(1:Int)))&&(!v89.2)))=true then
         some (((3:Int),P.c.1,P.c.2.1,P.c.2.2.1,P.c.2.2.2.1,P.pl,P.id,P.sc,P.tg,P.fg,P.sv,0,P.ends,P.ids,P.cm,P.n1,P.fl,P.n2,P.seen))
        else
         AT v89.1 fun aA=>
         if aA=some 117 then
          P.cm.bind fun aB=>
          P.fl.bind fun aC=>
          if 0≤(1:Int)∧(1:Int)≤(l.length:Int)∧(l.length:Int)≤(l.length:Int) then
           (CV P.c P.pl P.id P.sc P.tg P.fg P.sv (P.ends,()) (rV l (1:Int) (l.length:Int)) aB aC P.seen P.ids).bind fun v93=>
           some ((v93.1,P.c.1,P.c.2.1,P.c.2.2.1,P.c.2.2.2.1,P.pl,P.id,P.sc,P.tg,P.fg,P.sv,v93.2.1,P.ends,P.ids,(some v93.2.2),(v93.2.2.length),(some aC),(aC.length),P.seen))
          else none
         else
         if aA=some 118 then
          P.cm.bind fun aD=>
          P.fl.bind fun aE=>
          if 0≤(1:Int)∧(1:Int)≤(l.length:Int)∧(l.length:Int)≤(l.length:Int) then
           (CY P.c P.pl P.id P.sc P.tg P.fg P.sv (P.ends,()) (rV l (1:Int) (l.length:Int)) aD aE P.seen P.ids).bind fun v96=>
           some ((v96.1,P.c.1,P.c.2.1,P.c.2.2.1,P.c.2.2.2.1,P.pl,P.id,P.sc,P.tg,P.fg,P.sv,v96.2.1,P.ends,P.ids,(some aD),(aD.length),(some v96.2.2),(v96.2.2.length),P.seen))
          else none
         else
         if aA=some 119 then
          P.cm.bind fun aF=>
          P.fl.bind fun aG=>
          if 0≤(1:Int)∧(1:Int)≤(l.length:Int)∧(l.length:Int)≤(l.length:Int) then
           (EG P.c P.pl P.id P.sc P.tg P.fg P.sv (P.ends,()) (rV l (1:Int) (l.length:Int)) aF aG P.seen P.ids).bind fun v99=>
           some ((v99.1,P.c.1,P.c.2.1,P.c.2.2.1,P.c.2.2.2.1,P.pl,P.id,v99.2.1,P.tg,P.fg,P.sv,v99.2.2.1,P.ends,P.ids,(some aF),(aF.length),(some aG),(aG.length),v99.2.2.2))
          else none
         else
         if aA=some 120 then
          P.cm.bind fun aH=>
          P.fl.bind fun aI=>
          if 0≤(1:Int)∧(1:Int)≤(l.length:Int)∧(l.length:Int)≤(l.length:Int) then
           (EH P.c P.pl P.id P.sc P.tg P.fg P.sv (P.ends,()) (rV l (1:Int) (l.length:Int)) aH aI P.seen P.ids).bind fun v102=>
           some ((v102.1,P.c.1,P.c.2.1,P.c.2.2.1,P.c.2.2.2.1,P.pl,P.id,P.sc,v102.2.1,P.fg,P.sv,v102.2.2.1,P.ends,P.ids,(some aH),(aH.length),(some aI),(aI.length),v102.2.2.2))
          else none
         else
         if aA=some 121 then
          P.cm.bind fun aJ=>
          P.fl.bind fun aK=>
          if 0≤(1:Int)∧(1:Int)≤(l.length:Int)∧(l.length:Int)≤(l.length:Int) then
           (FN P.c P.pl P.id P.sc P.tg P.fg P.sv (P.ends,()) (rV l (1:Int) (l.length:Int)) aJ aK P.seen P.ids).bind fun v105=>
           some ((v105.1,P.c.1,P.c.2.1,P.c.2.2.1,P.c.2.2.2.1,P.pl,P.id,P.sc,P.tg,P.fg,v105.2.1,0,P.ends,P.ids,(some aJ),(aJ.length),(some aK),(aK.length),v105.2.2))
          else none
         else
         if aA=some 122 then
          P.cm.bind fun aL=>
          P.fl.bind fun aM=>
          if 0≤(1:Int)∧(1:Int)≤(l.length:Int)∧(l.length:Int)≤(l.length:Int) then
           (FL P.c P.pl P.id P.sc P.tg P.fg P.sv (P.ends,()) (rV l (1:Int) (l.length:Int)) aL aM P.seen P.ids).bind fun v108=>
           some ((v108.1,P.c.1,P.c.2.1,P.c.2.2.1,P.c.2.2.2.1,P.pl,P.id,P.sc,P.tg,v108.2.1,P.sv,0,P.ends,P.ids,(some aL),(aL.length),(some aM),(aM.length),v108.2.2))
          else none
         else
          none
       else none
     else none
theorem aGu {s:St}(ho:s.op=false) (he:s.ends≠[]) (n:Int) {c:wX}(hc: ∀t,c≠.beg false t):(sM s n c).1=3:=by
  cases c with
  |bad=>rfl
  |cont t=>rw[sM,aSn (.inl ho)]
  | beg hd t=>
    cases hd with
    |true=>rw[sM,aSn (.inr he)]
    |false=>exact absurd rfl (hc t)
  |com t=>rw[sM,aSn ho]
  |src t=>rw[sM,aSn (.inl ho)]
  |tgt t=>rw[sM,aSn (.inl ho)]
  |sta v=>rw[sM,aSn (.inl ho)]
  |fld m v=>rw[sM,aSn ho]
  |flg l=>rw[sM,aSn (.inl ho)]
  |fin=>rw[sM,aSn ho]
theorem aGv {k:pM}{r:List Wd}{t:pM}(h:uY k r= .beg false t):k=FU∧tM r=some t:=by
  unfold uY at h
  have one: ∀(f:pM→wX),(∀x,f x≠.beg false t)→((tM r).map f).getD .bad≠.beg false t:=fun f hf=>by
    cases tM r with
    |none=>intro h;cases h
    |some x=>exact hf x
  split at h
  .exact absurd h (one _ fun x hx=>by cases hx)
  split at h
  · rename_i hk
    refine⟨hk,?_⟩;cases ho:tM r with
    |none=>rw[ho] at h;cases h
    |some x=>rw[ho] at h;cases h;rfl
  split at h
  .exact absurd h (one _ fun x hx=>by cases hx)
  split at h
  .exact absurd h (one _ fun x hx=>by cases hx)
  split at h
  .exact absurd h (one _ fun x hx=>by cases hx)
  split at h
  · cases hs:HW r with
    |none=>rw[hs] at h;cases h
    |some v=>rw[hs] at h;cases h
  split at h
  · cases hs:ES r with
    |none=>rw[hs] at h;cases h
    |some v=>rw[hs] at h;cases h
  split at h
  .split at h<;>cases h
  split at h
  .split at h<;>cases h
  cases h
theorem aGw (w:Wd) (r:List Wd) (hw:w.1=false):(((!decide (((w::r).length:Int)=(2:Int)))||(qT rE (w::r) (0:Int)).1)||(!((qT rE (w::r) (1:Int)).1)))= !(tM r).isSome:=by
  have h:=aOa w r;have h0:(qT rE (w::r) (0:Int)).1=false:=hw;rw[h0,←h];cases decide (((w::r).length:Int)=(2:Int))<;>cases(qT tW (w::r) (1:Int)).1<;>rfl
theorem aOI {s:St}(h:zJ s) {P:Pg}(hr:DK s P) (ho:s.op=false) {w:Wd}{r:List Wd}(hw:w.1=false) {N:Nat}(hok: ∀x∈r,AI N x) (nx:Int):C3 (MJ P (w::r) nx) (sM s nx (uY w.2.1 r)):=by
  have he:s.ends≠[]:=by
    rcases hr.live with h1|h1
    .rw[ho] at h1;cases h1
    exact h1
  have hpl:P.pl=2:=by rw[hr.pl,ho,aSo pS,aSo he]
  have hes:=h.es.len;unfold MJ;rw[aSn (by rw[hpl];rfl)];unfold wL;rw[aGw w r hw,hpl];have hne1: ¬((2:Int)=0):=by decide
  have hg1:(((!decide (((w::r).length:Int)=(2:Int)))==false)=true→0≤(0:Int)∧(0:Int)<((w::r).length:Int)):=fun _=>xK
  have hg2:((((!decide (((w::r).length:Int)=(2:Int)))||(qT rE (w::r) (0:Int)).1)==false)=true→0≤(1:Int)∧(1:Int)<((w::r).length:Int)):=fun hh=>by
    cases hd:decide (((w::r).length:Int)=(2:Int)) with
    |false=>rw[hd] at hh;cases hh
    |true=>have:=aSZ hd;omega
  rw[aSn hg1,aSn hg2];cases hone:tM r with
  | none=>
    rw[aSn qE,aSq]
    have h3:(sM s nx (uY w.2.1 r)).1=3:=aGu ho he nx fun t hc=>by
      have:=(aGv hc).2;rw[hone] at this;cases this
    refine⟨_,rfl,h3.symm,fun h0=>?_⟩;rw[h3] at h0;cases h0
  | some t=>
    have htx:=aGf hok hone;have hrt:=OU hone;subst hrt;have hn0:qT rE [w,(true,t,())] (0:Int)=w:=rfl;have hn1:qT rE [w,(true,t,())] (1:Int)=(true,t,()):=rfl;rw[aSo pS,aSn pS,hn0,hn1];rw[aSn (fun _=>xK),aSn (fun hh=>by simp at hh),aSo pS,aSn (fun _=>xK)];dsimp only;by_cases hk:w.2.1=FU
    · have hcmd:uY w.2.1 [(true,t,())]= .beg false t:=by rw[hk];exact(aGj (k:=[]) hone).2.1
      rw[hcmd,sM,aSo (show¬(s.op=true∨s.ends=[]) by simp [ho,he])];by_cases h2:t=[]∨200<t.length
      · rw[aSn h2,aSo (by
          rcases h2 with h2|h2
          .subst h2;simp
          rw[decide_eq_false (show¬(t.length:Int)≤200 by omega)];simp),aSq]
        exact vE rfl rfl pR
      rw[aSo h2]
      have hids:sP .str .bool P.ids t=(s.c.2.2.2.1.any fun y=>decide (y.1=t)):=by rw[hr.ids t,ho];simp
      rw[not_or] at h2;rw[aSn (by rw[show decide (w.2.1=([101,110,116,114,121]:pM))=true from aS1 hk,decide_eq_false h2.1,aS1 (show (t.length:Int)≤200 by omega)];rfl),hids];by_cases h3:(s.c.2.2.2.1.any fun y=>decide (y.1=t))=true
      · rw[aSn h3,aSn h3,aSq]
        exact vE rfl rfl pR
      rw[aSo h3,aSo h3,hr.c]
      by_cases h4:1000≤s.c.2.2.2.1.length
      · rw[aSn h4,aSn pT,aSq]
        exact vE rfl rfl pR
      rw[aSo h4,aSo pT,aSq]
      refine FY rfl rfl {c:=rfl,ends:=hr.ends,pl:= ?_,x:=fun _=>⟨rfl,rfl,rfl,rfl,rfl⟩,id:=fun _ _=>rfl,fl:=fun _=>⟨[],rfl,rfl,List.nodup_nil,fun h0=>absurd h0.symm vD.2.2.2.1⟩,ap:=MI.symm,seen:=fun _=>⟨rfl,rfl,rfl,rfl⟩,ids:=fun x=>?_,live:= .inl rfl}
      · show (3:Int)=if true=true then(if s.ends=[] then 1 else 3) else _
        rw[aSn rfl,aSo he]
      show sP .str .bool (sY .str .bool t true P.ids) x=((s.c.2.2.2.1.any fun y=>decide (y.1=x))||((true&&decide (s.ends≠[]))&&decide (t=x)))
      rw[wW,hr.ids x,ho,aS1 he];by_cases hx:x=t
      .subst hx;simp
      rw[aSo hx,show decide (t=x)=false from decide_eq_false (fun e=>hx e.symm)];simp
    rw[aSo (by rw[show decide (w.2.1=([101,110,116,114,121]:pM))=false from decide_eq_false hk];simp),aSq]
    have h3:(sM s nx (uY w.2.1 [(true,t,())])).1=3:=aGu ho he nx fun t hc=>hk (aGv hc).1;refine⟨_,rfl,h3.symm,fun h0=>?_⟩;rw[h3] at h0;cases h0
theorem aOJ {s:St}(ho:s.op=true) (n:Int) {k:pM}{r:List Wd}(h1:k≠uX) (h2:k≠uF) (h3:k≠uG) (h4:k≠yK) (h5:k≠wO) (h6:k≠MH) (h7:k≠xJ):(sM s n (uY k r)).1=3:=by
  unfold uY;split
  · cases tM r with
    |none=>rfl
    |some t=>show (sM s n (.beg true t)).1=3;rw[sM,aSn (.inl ho)]
  split
  · cases tM r with
    |none=>rfl
    |some t=>show (sM s n (.beg false t)).1=3;rw[sM,aSn (.inl ho)]
  first|rfl|(rw[aSo h1,aSo h2,aSo h3,aSo h4,aSo h5,aSo h6,aSo h7];rfl)
theorem aGx (r:List Wd):uY uX r=((tM r).map wX.com).getD .bad∧uY uF r=((tM r).map wX.src).getD .bad∧uY uG r=((tM r).map wX.tgt).getD .bad∧uY yK r=((HW r).map wX.sta).getD .bad∧
    uY wO r=((ES r).map fun q=>wX.fld q.1 q.2).getD .bad∧uY MH r=(if r=[] then .fin else .bad)∧uY xJ r=(if r=[]∨(r.any HY)=true then .bad else .flg (t8 r)):=by
  refine⟨?_,?_,?_,?_,?_,?_,?_⟩<;>unfold uY
  .rw[aSo pR,aSo pR,aSn rfl]
  .rw[aSo pR,aSo pR,aSo pR,aSn rfl]
  .rw[aSo pR,aSo pR,aSo pR,aSo pR,aSn rfl]
  .rw[aSo pR,aSo pR,aSo pR,aSo pR,aSo pR,aSn rfl]
  .rw[aSo pR,aSo pR,aSo pR,aSo pR,aSo pR,aSo pR,aSn rfl]
  .rw[aSo pR,aSo pR,aSo pR,aSo pR,aSo pR,aSo pR,aSo pR,aSn rfl]
  rw[aSo pR,aSo pR,aSo pR,aSo pR,aSo pR,aSo pR,aSo pR,aSo pR,aSn rfl]
theorem FZ (w:Wd) (r:List Wd):rV (w::r) (1:Int) ((w::r).length:Int)=r:=(HR (k:=1)).trans rfl
theorem G0 {w:Wd}{r:List Wd}:0≤(1:Int)∧(1:Int)≤((w::r).length:Int)∧((w::r).length:Int)≤((w::r).length:Int):=⟨pR,by simp only[aSt];omega,aTq _⟩
section
variable {s:St}(h:zJ s) {P:Pg}(hr:DK s P) (ho:s.op=true) {w:Wd}{r:List Wd}(hw:w.1=false) (hl:r.length≤1100000000) (nx:Int)
include h hr ho
theorem a8b:P.pl=if s.ends=[] then 1 else 3:=by rw[hr.pl,aSn ho]
theorem aGy:decide (P.pl=(1:Int))=decide (s.ends=[]):=by
  rw[a8b h hr ho];by_cases he:s.ends=[]<;>simp [he]
theorem aOK (hk:w.2.1=MH):C3 (MJ P (w::r) nx) (sM s nx (uY w.2.1 r)):=by
  obtain⟨x1,x2,x3,x4,x5⟩:=hr.x ho;obtain⟨fl,f1,f2,f3,f4⟩:=hr.fl ho;have hes:=h.es.len;have hel:=aOi h
  have hfl:fl.length≤20:=by
    have:=(OX fl f3).length_eq;rw[f2] at this;have:=aGg h.fd;omega
  unfold MJ;rw[aSo (by rw[a8b h hr ho];split<;>decide),aSn xK,show qT rE (w::r) (0:Int)=w from rfl,aSn (by rw[hk];rfl),x5,f1,aSq,aSq,aSn G0,FZ,hk,(aGx r).2.2.2.2.2.1]
  unfold yS;cases hrr:r with
  | cons a t=>
    rw[aSn (by simp only[aSx,aSt];omega),aSo pS];exact vE rfl rfl pR
  | nil=>
    rw[aSo pS,aSn rfl,aOx f3 pQ,aSq,aGy h hr ho,f2,sM,aSo (show¬s.op=false by rw[ho];simp)];rw[hr.ends,hr.c,x1,x2,x3,x4];by_cases he:s.ends=[]
    · rw[aSn (aS1 he),aSn he]
      unfold uA;rw[aSq];dsimp only;rw[aSn (by simp only[aSt,aSF];omega),aSq];refine FY rfl rfl {c:=rfl,ends:=rfl,pl:= ?_,x:=fun h0=>(by cases h0),id:=fun h0=>(by cases h0),fl:=fun h0=>(by cases h0),ap:=MI.symm,seen:=fun h0=>(by cases h0),ids:=fun x=>?_,live:= .inr (by simp [uO])}
      · show (2:Int)=if false=true then _ else(if s.ends++[nx]=[] then 0 else 2)
        rw[aSo pS,aSo pS]
      show sP .str .bool P.ids x=((s.c.2.2.2.1.any fun y=>decide (y.1=x))||((false&&decide (s.ends++[nx]≠[]))&&decide (([]:pM)=x)))
      rw[hr.ids x,decide_eq_false (show¬s.ends≠[] by simpa using he)];simp
    rw[aSo (by simpa using he),aSo he,hr.id ho he,aSn (by simp only[aSt,aSF];omega)]
    unfold uA;rw[aSq];dsimp only;rw[aSn (by simp only[aSt,aSF];omega),aSq];refine FY rfl rfl {c:=rfl,ends:=rfl,pl:= ?_,x:=fun h0=>(by cases h0),id:=fun h0=>(by cases h0),fl:=fun h0=>(by cases h0),ap:=MI.symm,seen:=fun h0=>(by cases h0),ids:=fun x=>?_,live:= .inr (by simp [uO])}
    · show (2:Int)=if false=true then _ else(if s.ends++[nx]=[] then 0 else 2)
      rw[aSo pS,aSo pS]
    show sP .str .bool P.ids x=(((s.c.2.2.2.1++[s.x]).any fun y=>decide (y.1=x))||((false&&decide (s.ends++[nx]≠[]))&&decide (([]:pM)=x)))
    rw[hr.ids x,List.any_append,ho,aS1 he];simp
end
end
noncomputable section
section
variable {s:St}(h:zJ s) {P:Pg}(hr:DK s P) (ho:s.op=true) {w:Wd}{r:List Wd}(hw:w.1=false) (hl:r.length≤1100000000) (nx:Int)
include h hr ho
theorem OY {s':St}{P':Pg}(k1:s'.c=s.c) (k2:s'.ends=s.ends) (k3:s'.id=s.id) (k4:s'.op=s.op) (p1:P'.c=P.c) (p2:P'.ends=P.ends) (p3:P'.id=P.id) (p4:P'.pl=P.pl) (p5:P'.ids=P.ids)
    (hx:P'.sc=s'.sc∧P'.tg=s'.tg∧P'.fg=s'.fg∧P'.sv=s'.sv∧P'.cm=some s'.cm) (hf: ∃l,P'.fl=some l∧ET l=s'.fd∧(l.map (·.1)).Nodup∧(s'.last=wO→∃l' v,l=l'++[(s'.name,v,())]))
    (ha:P'.ap=JU s'.last) (hs:sP .str .bool P'.seen uF=s'.bs∧sP .str .bool P'.seen uG=s'.bt∧sP .str .bool P'.seen yK=s'.bh∧sP .str .bool P'.seen xJ=s'.bf):DK s' P':=
  {c:=by rw[p1,k1];exact hr.c,ends:=by rw[p2,k2];exact hr.ends,pl:=by rw[p4,k4,k2];exact hr.pl,x:=fun _=>hx,id:=fun _ he=>by rw[p3,k3];exact hr.id ho (by rw[←k2];exact he),fl:=fun _=>hf,ap:=ha,seen:=fun _=>hs,ids:=fun t=>by rw[p5,k1,k2,k3,k4];exact hr.ids t,live:= .inl (k4.trans ho)}
include hl in
theorem aOL:C3 (MJ P (w::r) nx) (sM s nx (uY w.2.1 r)):=by
  by_cases hkE:w.2.1=MH
  .exact aOK h hr ho nx hkE
  obtain⟨x1,x2,x3,x4,x5⟩:=hr.x ho;obtain⟨fl,f1,f2,f3,f4⟩:=hr.fl ho;obtain⟨s1,s2,s3,s4⟩:=hr.seen ho;have hcm:=aOe h.cm;have hperm:=OX fl f3;rw[f2] at hperm
  have hfl:fl.length≤20:=by
    have:=hperm.length_eq;have:=aGg h.fd;omega
  obtain⟨c1,c2,c3,c4,c5,c6,c7⟩:=aGx r;unfold MJ;rw[aSo (by rw[a8b h hr ho];split<;>decide),aSn xK,show qT rE (w::r) (0:Int)=w from rfl,show decide (w.2.1=([101,110,100]:pM))=false from decide_eq_false hkE,aSo pS,aSn xK,aOH]
  unfold AT;by_cases h1:w.2.1=uX
  · rw[aSn h1]
    dsimp only;rw[aSo (by simp [yW]),aSn rfl,x5,f1,aSq,aSq,aSn G0,FZ,aOC _ _ _ _ _ _ _ _ _ _ _ _ _ hcm,aSq,h1,c1];cases hone:tM r with
    |none=>exact vE rfl rfl pR
    | some t=>
      show C3 _ (sM s nx (.com t));rw[sM,aSo (show¬s.op=false by rw[ho];simp)];dsimp only;by_cases h20:s.cm.length=20
      · rw[aSn h20,aSn (show 20≤s.cm.length by omega)]
        exact vE rfl rfl pR
      rw[aSo h20,aSo (show¬20≤s.cm.length by omega)]
      exact FY rfl rfl (OY h hr ho rfl rfl rfl rfl rfl rfl rfl rfl rfl ⟨x1,x2,x3,x4,rfl⟩ ⟨fl,rfl,f2,f3,fun h0=>absurd h0 vD.2.2.2.2.2.2.2.1⟩ SC.symm ⟨s1,s2,s3,s4⟩)
  rw[aSo h1];by_cases h2:w.2.1=wO
  · rw[aSn h2]
    dsimp only;rw[aSo (by simp [yW]),aSo pS,aSn rfl,x5,f1,aSq,aSq,aSn G0,FZ,aOE _ _ _ _ _ _ _ _ _ _ _ _ _ hfl,aSq,h2,c5];cases hq:ES r with
    |none=>exact vE rfl rfl pR
    | some q=>
      show C3 _ (sM s nx (.fld q.1 q.2));rw[sM,aSo (show¬s.op=false by rw[ho];simp),←SB hperm.symm q.1];dsimp only;by_cases h3:(fl.any fun y=>decide (y.1=q.1))=true
      · rw[aSn h3,aSn h3]
        exact vE rfl rfl pR
      rw[aSo h3,aSo h3]
      have hle:=hperm.length_eq;by_cases h20:fl.length=20
      · rw[aSn h20,aSn (show 20≤s.fd.length by omega)]
        exact vE rfl rfl pR
      rw[aSo h20,aSo (show¬20≤s.fd.length by omega)]
      refine FY rfl rfl (OY h hr ho rfl rfl rfl rfl rfl rfl rfl rfl rfl ⟨x1,x2,x3,x4,rfl⟩ ⟨fl++[(q.1,q.2,())],rfl,?_,OW.2 ⟨f3,by cases hb:(fl.any fun y=>decide (y.1=q.1)) with|false=>rfl|true=>exact absurd hb h3⟩,fun _=>⟨fl,q.2,rfl⟩⟩ SF.symm ⟨s1,s2,s3,s4⟩)
      rw[OV,f2]
  rw[aSo h2];have hhead: ∀(o:pZ),((yW o)||((decide (P.pl=(1:Int)))&&(!false)))=((yW o)||decide (s.ends=[])):=fun o=>by rw[aGy h hr ho];simp
  by_cases h3:w.2.1=xJ
  · rw[aSn h3]
    dsimp only;rw[hhead,h3,c7];by_cases he:s.ends=[]
    · rw[aSn (by simp [he])]
      split
      .exact vE rfl rfl pR
      rw[sM,aSn (.inr he)]
      exact vE rfl rfl pR
    rw[aSo (by simp [yW,he]),aSo pS,aSo pS,aSo pS,aSo pS,aSo pS,aSn rfl,x5,f1,aSq,aSq,aSn G0,FZ,aOG _ _ _ _ _ _ _ _ _ _ _ _ _ hl,aSq]
    by_cases h5:r=[]∨(r.any HY)=true
    · rw[aSn h5,aSn h5]
      exact vE rfl rfl pR
    rw[aSo h5,aSo h5,sM,aSo (show¬(s.op=false∨s.ends=[]) by simp [ho,he]),s4]
    by_cases h6:s.bf=true∨FV (t8 r)=true
    · rw[aSn h6,aSn h6]
      exact vE rfl rfl pR
    rw[aSo h6,aSo h6]
    by_cases h7:20<(t8 r).length
    · rw[aSn h7,aSn h7]
      exact vE rfl rfl pR
    rw[aSo h7,aSo h7]
    refine FY rfl rfl (OY h hr ho rfl rfl rfl rfl rfl rfl rfl rfl rfl ⟨x1,x2,rfl,x4,rfl⟩ ⟨fl,rfl,f2,f3,fun h0=>absurd h0.symm vD.2.2.2.1⟩ MI.symm ⟨?_,?_,?_,?_⟩)
    · show sP .str .bool (sY .str .bool xJ true P.seen) uF=s.bs
      rw[wW,aSo pR];exact s1
    · show sP .str .bool (sY .str .bool xJ true P.seen) uG=s.bt
      rw[wW,aSo pR];exact s2
    · show sP .str .bool (sY .str .bool xJ true P.seen) yK=s.bh
      rw[wW,aSo pR];exact s3
    show sP .str .bool (sY .str .bool xJ true P.seen) xJ=true
    rw[wW,aSn rfl]
  rw[aSo h3];by_cases h4:w.2.1=yK
  · rw[aSn h4]
    dsimp only;rw[hhead,h4,c4];cases hv:HW r with
    | none=>
      by_cases he:s.ends=[]
      · rw[aSn (by simp [he])]
        exact vE rfl rfl pR
      · rw[aSo (by simp [yW,he]),aSo pS,aSo pS,aSo pS,aSo pS,aSn rfl,x5,f1,aSq,aSq,aSn G0,FZ,aGs,aSq,hv]
        exact vE rfl rfl pR
    | some v=>
      show C3 _ (sM s nx (.sta v));by_cases he:s.ends=[]
      · rw[aSn (by simp [he]),sM,aSn (.inr he)]
        exact vE rfl rfl pR
      rw[aSo (by simp [yW,he]),aSo pS,aSo pS,aSo pS,aSo pS,aSn rfl,x5,f1,aSq,aSq,aSn G0,FZ,aGs,aSq,hv,sM,aSo (show¬(s.op=false∨s.ends=[]) by simp [ho,he])]
      dsimp only;rw[s3];by_cases h6:s.bh=true
      · rw[aSn h6,aSn h6]
        exact vE rfl rfl pR
      rw[aSo h6,aSo h6]
      refine FY rfl rfl (OY h hr ho rfl rfl rfl rfl rfl rfl rfl rfl rfl ⟨x1,x2,x3,rfl,rfl⟩ ⟨fl,rfl,f2,f3,fun h0=>absurd h0.symm vD.2.2.2.1⟩ MI.symm ⟨?_,?_,?_,?_⟩)
      · show sP .str .bool (sY .str .bool yK true P.seen) uF=s.bs
        rw[wW,aSo pR];exact s1
      · show sP .str .bool (sY .str .bool yK true P.seen) uG=s.bt
        rw[wW,aSo pR];exact s2
      · show sP .str .bool (sY .str .bool yK true P.seen) yK=true
        rw[wW,aSn rfl]
      show sP .str .bool (sY .str .bool yK true P.seen) xJ=s.bf
      rw[wW,aSo pR];exact s4
  rw[aSo h4];by_cases h5:w.2.1=uG
  · rw[aSn h5]
    dsimp only;rw[hhead,h5,c3];cases hv:tM r with
    | none=>
      by_cases he:s.ends=[]
      · rw[aSn (by simp [he])]
        exact vE rfl rfl pR
      · rw[aSo (by simp [yW,he]),aSo pS,aSo pS,aSo pS,aSn rfl,x5,f1,aSq,aSq,aSn G0,FZ,aGr,aSq,hv]
        exact vE rfl rfl pR
    | some t=>
      show C3 _ (sM s nx (.tgt t));by_cases he:s.ends=[]
      · rw[aSn (by simp [he]),sM,aSn (.inr he)]
        exact vE rfl rfl pR
      rw[aSo (by simp [yW,he]),aSo pS,aSo pS,aSo pS,aSn rfl,x5,f1,aSq,aSq,aSn G0,FZ,aGr,aSq,hv,sM,aSo (show¬(s.op=false∨s.ends=[]) by simp [ho,he])]
      dsimp only;rw[s2];by_cases h6:s.bt=true
      · rw[aSn h6,aSn h6]
        exact vE rfl rfl pR
      rw[aSo h6,aSo h6]
      refine FY rfl rfl (OY h hr ho rfl rfl rfl rfl rfl rfl rfl rfl rfl ⟨x1,rfl,x3,x4,rfl⟩ ⟨fl,rfl,f2,f3,fun h0=>absurd h0 vD.2.2.2.2.2.2.2.2.2⟩ SE.symm ⟨?_,?_,?_,?_⟩)
      · show sP .str .bool (sY .str .bool uG true P.seen) uF=s.bs
        rw[wW,aSo pR];exact s1
      · show sP .str .bool (sY .str .bool uG true P.seen) uG=true
        rw[wW,aSn rfl]
      · show sP .str .bool (sY .str .bool uG true P.seen) yK=s.bh
        rw[wW,aSo pR];exact s3
      show sP .str .bool (sY .str .bool uG true P.seen) xJ=s.bf
      rw[wW,aSo pR];exact s4
  rw[aSo h5];by_cases h6:w.2.1=uF
  · rw[aSn h6]
    dsimp only;rw[hhead,h6,c2];cases hv:tM r with
    | none=>
      by_cases he:s.ends=[]
      · rw[aSn (by simp [he])]
        exact vE rfl rfl pR
      · rw[aSo (by simp [yW,he]),aSo pS,aSo pS,aSn rfl,x5,f1,aSq,aSq,aSn G0,FZ,aGq,aSq,hv]
        exact vE rfl rfl pR
    | some t=>
      show C3 _ (sM s nx (.src t));by_cases he:s.ends=[]
      · rw[aSn (by simp [he]),sM,aSn (.inr he)]
        exact vE rfl rfl pR
      rw[aSo (by simp [yW,he]),aSo pS,aSo pS,aSn rfl,x5,f1,aSq,aSq,aSn G0,FZ,aGq,aSq,hv,sM,aSo (show¬(s.op=false∨s.ends=[]) by simp [ho,he])]
      dsimp only;rw[s1];by_cases h6:s.bs=true
      · rw[aSn h6,aSn h6]
        exact vE rfl rfl pR
      rw[aSo h6,aSo h6]
      refine FY rfl rfl (OY h hr ho rfl rfl rfl rfl rfl rfl rfl rfl rfl ⟨rfl,x2,x3,x4,rfl⟩ ⟨fl,rfl,f2,f3,fun h0=>absurd h0 vD.2.2.2.2.2.2.2.2.1⟩ SD.symm ⟨?_,?_,?_,?_⟩)
      · show sP .str .bool (sY .str .bool uF true P.seen) uF=true
        rw[wW,aSn rfl]
      · show sP .str .bool (sY .str .bool uF true P.seen) uG=s.bt
        rw[wW,aSo pR];exact s2
      · show sP .str .bool (sY .str .bool uF true P.seen) yK=s.bh
        rw[wW,aSo pR];exact s3
      show sP .str .bool (sY .str .bool uF true P.seen) xJ=s.bf
      rw[wW,aSo pR];exact s4
  rw[aSo h6];have h3:(sM s nx (uY w.2.1 r)).1=3:=aOJ ho nx h1 h6 h5 h4 h2 hkE h3;dsimp only;rw[aSn (by simp [yW])];refine⟨_,rfl,h3.symm,fun h0=>?_⟩;rw[h3] at h0;cases h0
end
theorem aOM {s:St}(h:zJ s) {P:Pg}(hr:DK s P) {line:pM}(hl:line.length≤1100000000) (hf:C2 line=false) (nx:Int):
    C3 (uH P.c P.pl P.id P.sc P.tg P.fg P.sv P.ap (P.ends,()) line nx P.cm P.n1 P.fl P.n2 P.seen P.ids) (tZ s line nx):=by
  obtain⟨v,hv,hm⟩:=aGd hl;unfold tZ;rw[hf,aSo pS];unfold uH;rw[hv,aSq];cases hw:JS line with
  | none=>
    rw[hw] at hm;have hm:v.2=false:=hm;rw[aSn (by rw[hm];rfl)];exact vE rfl rfl pR
  | some l=>
    rw[hw] at hm;have hm:v=(l,true):=hm;subst hm
    have hnel:line.dropWhile tK≠[]:=fun e=>by
      unfold C2 at hf;rw[e] at hf;cases hf
    have hne:=aGe _ _ _ hw hnel;have hok:=Y3 _ _ _ hw;obtain⟨hs1,hs2⟩:=S8 _ _ _ hw;cases l with
    |nil=>exact absurd rfl hne
    | cons w r=>
      have hr': ∀x∈r,AI line.length x:=fun x hx=>hok x (aSy _ hx);rw[aSo pS,aSn xK];dsimp only;rw[show qT rE (w::r) (0:Int)=w from rfl];by_cases hq:w.1=true
      · rw[aSn hq]
        have hany:((w::r).any fun x=> !x.1)=r.any fun x=> !x.1:=by rw[List.any_cons,hq];rfl
        have:=aOA h hr (l:=w::r) pQ pQ nx;rw[hany] at this;show C3 (a8a P (w::r)) (sM s nx (BF (w::r)));unfold BF;dsimp only;rw[aSn hq];by_cases ha:(r.any fun x=> !x.1)=true
        .rw[aSn ha] at this|-;exact this
        rw[aSo ha] at this|-;exact this
      rw[aSo hq]
      have hq:w.1=false:=by simpa using hq
      show C3 (MJ P (w::r) nx) (sM s nx (BF (w::r)));have hcmd:BF (w::r)=uY w.2.1 r:=by unfold BF;dsimp only;rw[aSo (by rw[hq];simp)]
      rw[hcmd];cases ho:s.op with
      |false=>exact aOI h hr ho hq hr' nx
      |true=>exact aOL h hr ho (r:=r) (w:=w) (by simp only[aSt] at hs2;omega) nx
end
noncomputable section
theorem aON {α β:Type}(o:Option α):(o.bind fun _=>(none:Option β))=none:=by cases o<;>rfl
theorem aGz (s:pM):FB s [10]=Lib.indexByte s 10:=Lib.index_one s 10
theorem aGA: ∀(l:pM),Lib.indexByte l 10<0→∀b∈l,b≠10
  |[],_,b,hb=>by cases hb
  | c::l,h,b,hb=>by
    rw[Lib.indexByte] at h;split at h
    .omega
    rename_i hc
    have hc:c≠10:=by simpa using hc
    rcases aSC.1 hb with rfl|hb
    .exact hc
    refine aGA l ?_ b hb
    have:=NS l 10;split at h
    · rename_i h1
      simp only[aT2] at h1;omega
    omega
theorem aGB: ∀(l:pM),0≤Lib.indexByte l 10→(l.take ((Lib.indexByte l 10).toNat+1)).getLast? =some 10∧(l.take ((Lib.indexByte l 10).toNat+1)).dropLast=l.take (Lib.indexByte l 10).toNat
  |[],h=>by simp [Lib.indexByte] at h
  | c::l,h=>by
    by_cases hc:c=10
    · subst hc
      have e:Lib.indexByte ((10:UInt8)::l) 10=0:=by rw[Lib.indexByte];rfl
      rw[e];exact⟨rfl,rfl⟩
    have hlt:=NS l 10
    have e:Lib.indexByte (c::l) 10=Lib.indexByte l 10+1∧0≤Lib.indexByte l 10:=by
      rw[Lib.indexByte,aSo (by simpa using hc)] at h|-;split at h
      .omega
      rename_i h1
      simp only[aT2] at h1;rw[aSo (by simpa using h1)];exact⟨rfl,pQ⟩
    obtain⟨h1,h2⟩:=aGB l e.2;have e2:(Lib.indexByte (c::l) 10).toNat=(Lib.indexByte l 10).toNat+1:=by rw[e.1];omega
    rw[e2,List.take_succ_cons,List.take_succ_cons];have hne:l.take ((Lib.indexByte l 10).toNat+1)≠[]:=fun h0=>by rw[h0] at h1;cases h1
    refine⟨?_,?_⟩
    .rw[List.getLast?_cons,h1];rfl
    rw[List.dropLast_cons_of_ne_nil hne,h2]
theorem aOO {s:pM}(hs:s.length≤1100000000): ∃t,CT s [10]=some t∧t.1=if 0≤Lib.indexByte s 10 then s.take (Lib.indexByte s 10).toNat else s:=by
  have hi:=aGz s;have hr:=NS s 10;unfold CT J4;rw[hi,aSn pQ];by_cases h:0≤Lib.indexByte s 10
  · rw[aSn (aS1 h),aSn ⟨pQ,h,pQ⟩,aSn (by simp;unfold qP;omega),aSn ⟨by simp;omega,by simp;omega,aTq _⟩,aSn h]
    refine⟨_,rfl,?_⟩;show rV s 0 (Lib.indexByte s 10)=_;unfold rV;simp
  rw[aSo (by simpa using h),aSo h];exact⟨_,rfl,rfl⟩
theorem aGC {s:pM}(hs:s.length≤1100000000) {a:Nat}(ha:a<s.length): ∃t,CT (rV s (a:Int) (s.length:Int)) [10]=some t∧t.1=tS (FW s a)∧min (s.length:Int) (((a:Int)+(t.1.length:Int))+1)=(tJ s a:Nat)∧t.1.length≤s.length-a:=by
  rw[HR];obtain⟨t,h1,h2⟩:=aOO (s:=s.drop a) (by rw[aSW];omega);refine⟨t,h1,?_⟩;have hr:=NS (s.drop a) 10;rw[aSW] at hr;have hto:=Y5 ha;by_cases h:0≤Lib.indexByte (s.drop a) 10
  · rw[aSn h] at h2
    have hlt:tJ s a=a+(Lib.indexByte (s.drop a) 10).toNat+1:=aSn h;have hla:FW s a=(s.drop a).take ((Lib.indexByte (s.drop a) 10).toNat+1):=by unfold FW;rw[hlt];congr 1;omega
    obtain⟨g1,g2⟩:=aGB _ h;have hlen:t.1.length=(Lib.indexByte (s.drop a) 10).toNat:=by rw[h2,aS0,aSW];omega
    refine⟨?_,?_,?_⟩
    · unfold tS
      rw[hla,aSn g1,g2,h2]
    .rw[hlen,hlt,Int.min_eq_right pQ];omega
    omega
  rw[aSo h] at h2
  have hlt:tJ s a=s.length:=aSo h;have hla:FW s a=s.drop a:=by unfold FW;rw[hlt];exact List.take_of_length_le (by rw[aSW];omega)
  have hlen:t.1.length=s.length-a:=by rw[h2,aSW]
  refine⟨?_,?_,pQ⟩
  · unfold tS
    rw[hla,aSo (fun hg=>aGA (s.drop a) pQ 10 (List.mem_of_getLast? hg) rfl),h2]
  rw[hlen,hlt,Int.min_eq_left pQ]
theorem aGD (s:pM):GZ s=some ()∧(!((decide ((Lib.trimLeftS s ([32,9]:pM))=([]:pM)))||(decide ((sH (Lib.trimLeftS s ([32,9]:pM)) (0:Int))=(35:Int)))))= !C2 s:=by
  unfold GZ C2;rw[aN2];cases h:s.dropWhile tK with
  |nil=>exact⟨aSn (fun hh=>by simp at hh),rfl⟩
  | cons b t=>
    refine⟨aSn (fun _=>xK),?_⟩;rw[show sH (b::t) 0=(b.toNat:Int) from rfl,D3 (n:=35) 35 rfl];simp
theorem aGE (w:Wd) (r:List Wd) (hw:w.1=false):(((!decide (((w::r).length:Int)=(2:Int)))||(qT rE (w::r) (0:Int)).1)||(!((qT rE (w::r) (1:Int)).1)))= !(tM r).isSome:=aGw w r hw
theorem aGF (w:Wd) (r:List Wd):((((!decide (((w::r).length:Int)=(2:Int)))||(qT rE (w::r) (0:Int)).1)==false)=true→0≤(1:Int)∧(1:Int)<((w::r).length:Int)):=fun hh=>by
  cases hd:decide (((w::r).length:Int)=(2:Int)) with
  |false=>rw[hd] at hh;cases hh
  |true=>have:=aSZ hd;omega
abbrev c0:sQ:=(([]:pM),(([]:pN),(([]:List r5),(([]:List t7),()))))
abbrev SG (line:pM) (nx:Int):=zF c0 (0:Int) ([]:pM) ([]:pM) ([]:pM) ([]:pN) (0:Int) (([]:pW),()) line nx (some ([]:pN)) 0 (some ([]:List r5)) 0 ([]:pU)
abbrev L0b (line:pM) (nx:Int):=FQ c0 (0:Int) ([]:pM) ([]:pM) ([]:pM) ([]:pN) (0:Int) (([]:pW),()) line nx (some ([]:pN)) 0 (some ([]:List r5)) 0 ([]:pU)
theorem a8d (nx:Int) {c:wX}(hc: ∀t,c≠.beg true t):(sM tO nx c).1=3:=by
  cases c with
  |bad=>rfl
  | beg hd t=>
    cases hd with
    |true=>exact absurd rfl (hc t)
    |false=>rfl
  |cont t=>rfl
  |com t=>rfl
  |src t=>rfl
  |tgt t=>rfl
  |sta v=>rfl
  |fld m v=>rfl
  |flg l=>rfl
  |fin=>rfl
theorem aGG {k:pM}{r:List Wd}{t:pM}(h:uY k r= .beg true t):k=D5∧tM r=some t:=by
  unfold uY at h
  have one: ∀(f:pM→wX),(∀x,f x≠.beg true t)→((tM r).map f).getD .bad≠.beg true t:=fun f hf=>by
    cases tM r with
    |none=>intro h;cases h
    |some x=>exact hf x
  split at h
  · rename_i hk
    refine⟨hk,?_⟩;cases ho:tM r with
    |none=>rw[ho] at h;cases h
    |some x=>rw[ho] at h;cases h;rfl
  split at h
  .exact absurd h (one _ fun x hx=>by cases hx)
  split at h
  .exact absurd h (one _ fun x hx=>by cases hx)
  split at h
  .exact absurd h (one _ fun x hx=>by cases hx)
  split at h
  .exact absurd h (one _ fun x hx=>by cases hx)
  split at h
  · cases hs:HW r with
    |none=>rw[hs] at h;cases h
    |some v=>rw[hs] at h;cases h
  split at h
  · cases hs:ES r with
    |none=>rw[hs] at h;cases h
    |some v=>rw[hs] at h;cases h
  split at h
  .split at h<;>cases h
  split at h
  .split at h<;>cases h
  cases h
theorem aGH {l:List Wd}(hl:l.length≤1100000000): ∀(n i:Nat) (a:pM),i+n=l.length→a.length+(t8 (l.drop i)).flatten.length≤9000000000000000000→
    ∃q,sC (M0 l) (a,(i:Int))=some q∧(q= .inr 3∨∃z,q= .inl z)
  | 0,i,a,hi,_=>by
    have:i=l.length:=by omega
    subst this;rw[uN];unfold M0;dsimp only;rw[aSo (BB _)];exact⟨_,rfl,.inr ⟨_,rfl⟩⟩
  | n+1,i,a,hi,hb=>by
    have hlt:i<l.length:=by omega
    have h2:(t8 (l.drop i)).flatten=l[i].2.1++(t8 (l.drop (i+1))).flatten:=by
      unfold t8;rw[aS4 hlt,aTw,aTh]
    rw[h2,aSp] at hb;rw[uN];generalize hF:sC (M0 l)=F;unfold M0;dsimp only;rw[aSn (wV hlt),aSn (uV hlt),S7 hlt];cases hq:l[i].1 with
    |false=>exact⟨_,rfl,.inl rfl⟩
    | true=>
      rw[aSo pS,aSn (by rw[aSp];omega),aSn (yH pQ),aSq];dsimp only;rw[←hF,show ((i:Int)+1)=((i+1:Nat):Int) by omega];exact aGH hl n (i+1) _ pQ (by rw[aSp];omega)
def JW (w:Wd) (r:List Wd):Option pM:=match tM r with
  |some t=>if w.2.1=D5∧xH t=true then some t else none
  |none=>none
theorem aGI {w:Wd}{r:List Wd}(hq:w.1=false):B3 c0 (0:Int) ([]:pM) ([]:pM) ([]:pM) ([]:pN) (0:Int) (([]:pW),()) (w::r) (some ([]:pN)) 0 (some ([]:List r5)) 0 ([]:pU)=(JW w r).map fun t=>(t,1,[],[]):=by
  unfold B3 JW;rw[aGE w r hq,aSn (fun _=>xK),aSn (aGF w r)];cases hone:tM r with
  |none=>rfl
  | some t=>
    have hrt:=OU hone;subst hrt;have hn0:qT rE [w,(true,t,())] (0:Int)=w:=rfl;have hn1:qT rE [w,(true,t,())] (1:Int)=(true,t,()):=rfl;have hp1:0≤(1:Int)∧(1:Int)<(List.length [w,(true,t,())]:Int):=by simp
    rw[hn0,hn1,a7F];dsimp only;rw[aSo (show¬(!(some t).isSome)=true by simp),aSn hp1,aSn (fun _=>xK),aSn (fun _=>Option.isSome_some),show decide ((0:Int)=0)=true from rfl,Bool.true_and,show val (some (xH t))=xH t from rfl];by_cases hc:w.2.1=D5∧xH t=true
    · rw[aSn hc,show decide (w.2.1=([99,97,116,97,108,111,103]:pM))=true from aS1 hc.1,hc.2]
      rfl
    rw[aSo hc,aSo (by
      simp only[aSA,aSx];exact hc)]
    rfl
theorem aGJ {w:Wd}{r:List Wd}(hq:w.1=false):JB c0 (0:Int) ([]:pM) ([]:pM) ([]:pM) ([]:pN) (0:Int) (([]:pW),()) (w::r) (some ([]:pN)) 0 (some ([]:List r5)) 0 ([]:pU)=match JW w r with|some _=>none|none=>some 3:=by
  unfold JB JW;rw[aGE w r hq,aSn (fun _=>xK),aSn (aGF w r)];cases hone:tM r with
  |none=>rfl
  | some t=>
    have hrt:=OU hone;subst hrt;have hn0:qT rE [w,(true,t,())] (0:Int)=w:=rfl;have hn1:qT rE [w,(true,t,())] (1:Int)=(true,t,()):=rfl;have hp1:0≤(1:Int)∧(1:Int)<(List.length [w,(true,t,())]:Int):=by simp
    rw[hn0,hn1,a7F];dsimp only;rw[aSo (show¬(!(some t).isSome)=true by simp),aSn hp1,aSn (fun _=>xK),aSn (fun _=>Option.isSome_some),show decide ((0:Int)=0)=true from rfl,Bool.true_and,show val (some (xH t))=xH t from rfl];by_cases hc:w.2.1=D5∧xH t=true
    · rw[aSn hc,show decide (w.2.1=([99,97,116,97,108,111,103]:pM))=true from aS1 hc.1,hc.2]
      rfl
    rw[aSo hc,aSo (by
      simp only[aSA,aSx];exact hc)]
    rfl
def OZ (l:List Wd):Option pM:=match l with
  |[]=>none
  |w::r=>if w.1=true then none else JW w r
theorem aOP {l:List Wd}(hne:l≠[]) {N:Nat}(hok: ∀w∈l,AI N w) (nx:Int):(sM tO nx (BF l)=match OZ l with|some t=>(0,yM tO (t,tO.c.2) t) |none=>sM tO nx (BF l))∧(OZ l=none→(sM tO nx (BF l)).1=3):=by
  cases l with
  |nil=>exact absurd rfl hne
  | cons w r=>
    have hr': ∀x∈r,AI N x:=fun x hx=>hok x (aSy _ hx);unfold BF OZ;dsimp only;by_cases hq:w.1=true
    · rw[aSn hq,aSn hq]
      refine⟨rfl,fun _=>a8d nx fun t=>?_⟩;split<;>intro hc<;>cases hc
    rw[aSo hq,aSo hq]
    unfold JW;cases hone:tM r with
    | none=>
      refine⟨rfl,fun _=>a8d nx fun t hc=>?_⟩;have:=(aGG hc).2;rw[hone] at this;cases this
    | some t=>
      dsimp only;by_cases hk:w.2.1=D5
      · have hc1:uY w.2.1 r= .beg true t:=by rw[hk];exact(aGj (k:=[]) hone).1
        have hdo:sM tO nx (.beg true t)=if xH t=true then(0,yM tO (t,tO.c.2) t) else(3,tO):=by rw[sM,aSo (by simp [tO,uO])]
        rw[hc1,hdo];by_cases htg:xH t=true
        · rw[aSn htg,aSn ⟨hk,htg⟩]
          exact⟨rfl,fun h=>by cases h⟩
        rw[aSo htg,aSo (fun h=>htg h.2)]
        exact⟨rfl,fun _=>rfl⟩
      rw[aSo (fun h=>hk h.1)]
      exact⟨rfl,fun _=>a8d nx fun t' hc=>hk (aGG hc).1⟩
theorem aOQ {line:pM}(hl:line.length≤1100000000) (hf:C2 line=false) (nx:Int):
    (∃t,tZ tO line nx=(0,yM tO (t,tO.c.2) t)∧SG line nx=some (t,1,[],[]))∨((tZ tO line nx).1=3∧SG line nx=none∧L0b line nx=some 3):=by
  obtain⟨v,hv,hm⟩:=aGd hl
  have hstep:tZ tO line nx=match JS line with|none=>(3,tO) |some l=>sM tO nx (BF l):=by
    unfold tZ;exact(aSo (by rw[hf];simp)).trans rfl
  cases hw:JS line with
  | none=>
    rw[hw] at hm hstep;have hm:v.2=false:=hm;refine .inr ⟨by rw[hstep],?_,?_⟩
    · unfold SG zF
      rw[hv,aSq,aSn (by rw[hm];rfl)]
    · unfold L0b FQ
      rw[hv,aSq,aSn (by rw[hm];rfl)]
  | some l=>
    rw[hw] at hm hstep;have hm:v=(l,true):=hm;subst hm
    have hnel:line.dropWhile tK≠[]:=fun e=>by
      unfold C2 at hf;rw[e] at hf;cases hf
    have hne:=aGe _ _ _ hw hnel;have hok:=Y3 _ _ _ hw;obtain⟨hs1,hs2⟩:=S8 _ _ _ hw;obtain⟨hd1,hd2⟩:=aOP hne hok nx
    have hA:SG line nx=(OZ l).map fun t=>(t,1,[],[]):=by
      unfold SG zF OZ;rw[hv,aSq];cases l with
      |nil=>exact absurd rfl hne
      | cons w r=>
        dsimp only;rw[aSo pS,aSn xK,show qT rE (w::r) (0:Int)=w from rfl];by_cases hq:w.1=true
        .rw[aSn hq,aSn hq];exact aON _
        rw[aSo hq,aSo hq,aSn pR]
        have hq:w.1=false:=by simpa using hq
        have ha:=aGI (r:=r) hq;have hb:=aGJ (r:=r) hq;unfold c0 at ha hb;rw[ha,hb];cases JW w r<;>rfl
    cases hF:OZ l with
    | some t=>
      rw[hF] at hd1 hA;exact .inl ⟨t,hstep.trans hd1,hA⟩
    | none=>
      rw[hF] at hA;refine .inr ⟨by rw[hstep];exact hd2 hF,hA,?_⟩;unfold L0b FQ;rw[hv,aSq];cases l with
      |nil=>exact absurd rfl hne
      | cons w r=>
        dsimp only;rw[aSo pS,aSn xK,show qT rE (w::r) (0:Int)=w from rfl];by_cases hq:w.1=true
        · rw[aSn hq]
          unfold M1;obtain⟨q,h1,h2⟩:=aGH (l:=w::r) pQ (w::r).length 0 [] pQ (by rw[aTG,aSF];omega);have h1':sC (M0 (w::r)) (([]:pM),(0:Int))=some q:=h1;rw[h1'];rcases h2 with rfl|⟨z,rfl⟩<;>rfl
        have hF:(if w.1=true then none else JW w r)=none:=hF
        rw[aSo hq] at hF;rw[aSo hq,aSn pR];have hq:w.1=false:=by simpa using hq
        have ha:=aGI (r:=r) hq;have hb:=aGJ (r:=r) hq;unfold c0 at ha hb;rw[ha,hb,hF];rfl
end
noncomputable section
abbrev aOR:=Int×pM×pN×(List r5)×(List t7)×Int×pM×pM×pM×pN×Int×Nat×pW×(Option pN)×Nat×(Option (List r5))×Nat×pU×pU
abbrev aGK:=pM×pN×(List r5)×(List t7)×Int×pM×pM×pM×pN×Int×Nat×pW×(Option pN)×Nat×(Option (List r5))×Nat×pU×pU
abbrev Pg.out (P:Pg):aGK:=(P.c.1,P.c.2.1,P.c.2.2.1,P.c.2.2.2.1,P.pl,P.id,P.sc,P.tg,P.fg,P.sv,P.ap,P.ends,P.cm,P.n1,P.fl,P.n2,P.seen,P.ids)
abbrev Pg.inn (P:Pg) (a:Int):aOR:=(a,P.out)
def SH (s:pM) (ok:Option aGK) (er:Option (Int×Int)) (r:(Nat×Int)⊕St):Prop:=match r with
  | .inl q=>ok=none∧er=some ((q.1:Int),q.2)∧q.2≠0
  | .inr st=>if st.op=true∨st.ends=[] then ok=none∧er=some ((s.length:Int),3) else∃P,DK st P∧ok=some P.out
theorem a8e {s:pM}(hs:s.length≤1100000000): ∀(n a:Nat) (st:St) (P:Pg),zJ st→DK st P→a≤s.length→s.length<n+a→
    SH s (sC (A9 s) (.inr (P.inn a))) (sC (AA s) (.inr (P.inn a))) (FX s n st a)
  |0,a,st,P,hst,hr,ha,hn=>by omega
  | n+1,a,st,P,hst,hr,ha,hn=>by
    rw[FX];by_cases hlt:a<s.length
    · rw[aSn hlt]
      obtain⟨t,ht1,ht2,ht3,ht4⟩:=aGC hs hlt;have hto:=Y5 hlt;obtain⟨hf1,hf2⟩:=aGD t.1;have hsub:t.1.length≤1100000000:=by omega
      have hab:0≤(a:Int)∧(a:Int)≤(s.length:Int)∧(s.length:Int)≤(s.length:Int):=⟨pQ,pQ,aTq _⟩;have hi1:qP ((a:Int)+(t.1.length:Int)):=by unfold qP;omega
      have hi2:qP (((a:Int)+(t.1.length:Int))+(1:Int)):=by unfold qP;omega
      rw[←ht2];rw[uN (A9 s),uN (AA s)];generalize hF:sC (A9 s)=F;generalize hG:sC (AA s)=G;unfold A9 AA;dsimp only;rw[aSn (wV hlt),aSn (wV hlt),aSn hab,aSn hab,ht1,aSq,aSq,aSn hi1,aSn hi1,aSn hi2,aSn hi2,hf1,aSq,aSq,hf2,ht3];cases hfr:C2 t.1 with
      | true=>
        have hst':tZ st t.1 (tJ s a:Nat)=(0,st):=by unfold tZ;rw[hfr,aSn rfl]
        rw[aSo (show¬(!true)=true by simp),aSo (show¬(!true)=true by simp),hst',aSn rfl,aSq,aSq];dsimp only;rw[←hF,←hG];exact a8e hs n (tJ s a) st P hst hr hto.2 pQ
      | false=>
        rw[aSn (show (!false)=true from rfl),aSn (show (!false)=true from rfl)];obtain⟨v,hv,he,hz⟩:=aOM hst hr hsub hfr (tJ s a:Nat);have hv':uH (P.c.1,(P.c.2.1,(P.c.2.2.1,(P.c.2.2.2.1,())))) P.pl P.id P.sc P.tg P.fg P.sv P.ap (P.ends,()) t.1 ((tJ s a:Nat):Int) P.cm P.n1 P.fl P.n2 P.seen P.ids=some v:=hv;rw[hv',aSq,aSq,he];by_cases h0:(tZ st t.1 (tJ s a:Nat)).1=0
        · rw[h0,aSo pS,aSo pS,aSn rfl,aSq,aSq]
          dsimp only;rw[←hF,←hG];exact a8e hs n (tJ s a) _ (a79 v) (aGi hst _ _ h0) (hz h0) hto.2 pQ
        rw[aSn (by simp [h0]),aSn (by simp [h0]),aSo h0]
        exact⟨rfl,rfl,h0⟩
    rw[aSo hlt]
    have hF:decide ((a:Int)<(s.length:Int))=false:=decide_eq_false pQ;rw[uN (A9 s),uN (AA s)];unfold A9 AA;dsimp only;rw[hF,aSo (show¬false=true by simp),aSo (show¬false=true by simp)];unfold SH;dsimp only;by_cases hc:st.op=true∨st.ends=[]
    · rw[aSn hc]
      have hpl:P.pl≠2:=by
        rw[hr.pl];rcases hc with h1|h1
        .rw[aSn h1];split<;>decide
        rcases hr.live with h2|h2
        .rw[aSn h2];split<;>decide
        exact absurd h1 h2
      rw[aSn (show (!decide (P.pl=(2:Int)))=true by simp [hpl]),aSn (show (!decide (P.pl=(2:Int)))=true by simp [hpl])];exact⟨rfl,rfl⟩
    rw[aSo hc]
    rw[not_or] at hc;have hpl:P.pl=2:=by rw[hr.pl,aSo hc.1,aSo hc.2]
    rw[aSo (show¬(!decide (P.pl=(2:Int)))=true by simp [hpl])];exact⟨P,hr,rfl⟩
theorem aOS (t:pM):DK (yM tO (t,tO.c.2) t) ⟨(t,([],([],([],())))),1,[],[],[],[],0,0,[],some [],0,some [],0,[],[]⟩ where
  c:=rfl
  ends:=rfl
  pl:=rfl
  x:=fun _=>⟨rfl,rfl,rfl,rfl,rfl⟩
  id:=fun _ h=>absurd rfl h
  fl:=fun _=>⟨[],rfl,rfl,List.nodup_nil,fun h=>absurd h.symm vD.2.2.2.1⟩
  ap:=MI.symm
  seen:=fun _=>⟨rfl,rfl,rfl,rfl⟩
  ids:=fun _=>rfl
  live:= .inl rfl
theorem aOT {t:pM}{line:pM}{nx:Int}(h:tZ tO line nx=(0,yM tO (t,tO.c.2) t)):zJ (yM tO (t,tO.c.2) t):=by
  have:=aGi aOr line nx (by rw[h]);rw[h] at this;exact this
theorem aGL {s:pM}(hs:s.length≤1100000000): ∀(n a:Nat),a≤s.length→s.length<n+a→
    SH s (sC (A9 s) (.inl (a:Int))) (sC (AA s) (.inl (a:Int))) (FX s n tO a)
  |0,a,ha,hn=>by omega
  | n+1,a,ha,hn=>by
    rw[FX];by_cases hlt:a<s.length
    · rw[aSn hlt]
      obtain⟨t,ht1,ht2,ht3,ht4⟩:=aGC hs hlt;have hto:=Y5 hlt;obtain⟨hf1,hf2⟩:=aGD t.1;have hsub:t.1.length≤1100000000:=by omega
      have hab:0≤(a:Int)∧(a:Int)≤(s.length:Int)∧(s.length:Int)≤(s.length:Int):=⟨pQ,pQ,aTq _⟩;have hi1:qP ((a:Int)+(t.1.length:Int)):=by unfold qP;omega
      have hi2:qP (((a:Int)+(t.1.length:Int))+(1:Int)):=by unfold qP;omega
      rw[←ht2];rw[uN (A9 s),uN (AA s)];generalize hF:sC (A9 s)=F;generalize hG:sC (AA s)=G;unfold A9 AA;dsimp only;rw[aSn (wV hlt),aSn (wV hlt),aSn hab,aSn hab,ht1,aSq,aSq,aSn hi1,aSn hi1,aSn hi2,aSn hi2,hf1,aSq,aSq,hf2,ht3];cases hfr:C2 t.1 with
      | true=>
        have hst':tZ tO t.1 (tJ s a:Nat)=(0,tO):=by unfold tZ;rw[hfr,aSn rfl]
        rw[aSo (show¬(!true)=true by simp),aSo (show¬(!true)=true by simp),hst',aSn rfl,aSq,aSq];dsimp only;rw[←hF,←hG];exact aGL hs n (tJ s a) hto.2 pQ
      | false=>
        rw[aSn (show (!false)=true from rfl),aSn (show (!false)=true from rfl)];rcases aOQ hsub hfr (tJ s a:Nat) with⟨x,h1,h2⟩ |⟨h1,h2,h3⟩
        · have h2':zF (([]:pM),(([]:pN),(([]:List r5),(([]:List t7),())))) (0:Int) ([]:pM) ([]:pM) ([]:pM) ([]:pN) (0:Int) (([]:pW),()) t.1 ((tJ s a:Nat):Int) (some ([]:pN)) 0 (some ([]:List r5)) 0 ([]:pU)=some (x,1,[],[]):=h2
          rw[h2',h1];simp only[Option.isSome_some,↓reduceIte,aSq,decide_true,Bool.not_true,aTO];rw[←hF,←hG];exact a8e hs n (tJ s a) _ _ (aOT h1) (aOS x) hto.2 pQ
        have h2':zF (([]:pM),(([]:pN),(([]:List r5),(([]:List t7),())))) (0:Int) ([]:pM) ([]:pM) ([]:pM) ([]:pN) (0:Int) (([]:pW),()) t.1 ((tJ s a:Nat):Int) (some ([]:pN)) 0 (some ([]:List r5)) 0 ([]:pU)=none:=h2
        have h3':FQ (([]:pM),(([]:pN),(([]:List r5),(([]:List t7),())))) (0:Int) ([]:pM) ([]:pM) ([]:pM) ([]:pN) (0:Int) (([]:pW),()) t.1 ((tJ s a:Nat):Int) (some ([]:pN)) 0 (some ([]:List r5)) 0 ([]:pU)=some 3:=h3;rw[h2',h3',h1];simp only[Option.isSome_none,aTO,↓reduceIte,aSq];rw[aSn (show (!decide ((3:Int)=(0:Int)))=true from rfl),aSn (show (!decide ((3:Int)=(0:Int)))=true from rfl),aSo (show¬(3:Int)=0 by decide)];exact⟨rfl,rfl,show (3:Int)≠0 by decide⟩
    rw[aSo hlt]
    have hF:decide ((a:Int)<(s.length:Int))=false:=decide_eq_false pQ;rw[uN (A9 s),uN (AA s)];unfold A9 AA;dsimp only;rw[hF,aSo (show¬false=true by simp),aSo (show¬false=true by simp),aSn (show (!decide ((0:Int)=(2:Int)))=true from rfl),aSn (show (!decide ((0:Int)=(2:Int)))=true from rfl)];exact⟨rfl,rfl⟩
theorem aOU {s:pM}(hs:s.length≤1100000000):match JT s with
    | .inl q=>uI s=none∧JL s=some ((q.1:Int),q.2)∧q.2≠0
    | .inr st=> ∃P,DK st P∧uI s=some P.out∧st.op=false∧st.ends≠[]:=by
  have h:=aGL hs (s.length+1) 0 (aTo _) pQ;unfold JT;unfold uI JL;have h':SH s (sC (A9 s) (.inl (0:Int))) (sC (AA s) (.inl (0:Int))) (FX s (s.length+1) tO 0):=h;cases hr:FX s (s.length+1) tO 0 with
  |inl q=>rw[hr] at h';exact h'
  | inr st=>
    rw[hr] at h';unfold SH at h';dsimp only at h'|-;by_cases hc:st.op=true∨st.ends=[]
    · rw[aSn hc] at h'|-
      exact⟨h'.1,h'.2,show (3:Int)≠0 by decide⟩
    rw[aSo hc] at h'|-
    obtain⟨P,h1,h2⟩:=h';rw[not_or] at hc;exact⟨P,h1,h2,by simpa using hc.1,hc.2⟩
def aOV:(Nat×Int)⊕St→pM×pN×(List r5)×(List t7)×Int×Int
  | .inl q=>([],[],[],[],(q.1:Int),q.2)
  | .inr st=>(st.c.1,st.c.2.1,st.c.2.2.1,st.c.2.2.2.1,0,0)
theorem aOW {s:pM}(hs:s.length≤1100000000):AB s=some (aOV (JT s)):=by
  have h:=aOU hs;unfold AB;cases hr:JT s with
  | inl q=>
    rw[hr] at h;obtain⟨h1,h2,h3⟩:=h;rw[h1,h2,aSo pS,aSq,aSn (by simpa using h3)];rfl
  | inr st=>
    rw[hr] at h;obtain⟨P,h1,h2,_⟩:=h;rw[h2,aSn (show (some P.out).isSome=true from rfl),aSq,aSo (show¬(!decide ((0:Int)=(0:Int)))=true by decide)];show some (P.c.1,P.c.2.1,P.c.2.2.1,P.c.2.2.2.1,(0:Int),(0:Int))=_;rw[h1.c];rfl
end
noncomputable section
theorem aOX:OO=some true:=by kernel_rfl
end
def G1 {p:Prop}{α:Type}{v:α}:p->(some v).isSome=true:=fun _=>rfl
def aGM {ρ:Type}{f:Int->Option (Int⊕(Unit⊕ρ))}{n:Nat}(p:Nat->Bool) (g:Nat->ρ)
  (hf: ∀(i:Nat),i<n->f i=if p i=true then some (.inr (.inr (g i))) else some (.inl (i+1)))
  (he:f n=some (.inr (.inl ()))):sC f 0=some (zG (fun k=> .inr (g k)) (.inl ()) ((List.range n).findIdx? p)):=by
 refine RY (l:=List.range n) p g (fun i h=>?_) (by rw[List.length_range];exact he);have hi:i<n:=by rw[List.length_range] at h;exact h
 rw[List.getElem_range];exact hf i hi
def aGN {n:Nat}{p:Nat->Bool}{b:Bool}:uS (some (zG (fun _=>Sum.inr false) (Sum.inl ()) ((List.range n).findIdx? p))) (fun _:Unit=>some b)=some (!((List.range n).any p)&&b):=by
 rw[XL];cases(List.range n).any p<;>rfl
def aOY (l:pN) (hl:sO l) (hx: ∀x∈l,sO x):BZ l=some (l.any fun x=> !sK x):=by
 unfold sO at hl;have h:=RY (f:=RN l) (l:=l) (fun x=> !sK x) (fun k=>(k:Int)) (fun i h=>by
  have h1:=ME l[i] (hx _ (aTB h));unfold RN RM;rw[aSn (wV h),aSn (uV h),OQ (t:= .str) h,h1,aSq,aSq,aSn (yH pQ)];rfl) (by
  unfold RN;rw[aSo (BB _)])
 unfold BZ OI;rw[h,XO];show some (decide _)=_;rw[aFK]
def aGO (l:pN) (hl:sO l) (hx: ∀x∈l,sO x):M9 l=some ()/\((decide ((l.length:Int)<=20))&&(!(val (BZ l))))=wM l:=by
 unfold M9;rw[aOY l hl hx];exact⟨aSn G1,rfl⟩
def aGP {l:pN}{i:Nat}:qT .str l (i:Int)=l.getD i []:=by unfold qT;rw[aTi];rfl
def aOZ {l:pN}{i:Nat}:qT .str l ((i:Int)-1)=l.getD (i-1) []:=by
 unfold qT;rw[show ((i:Int)-1).toNat=i-1 by omega];rfl
def aGQ {i:Nat}:decide ((0:Int)<(i:Int))=decide (0<i):=by simp
def aO0 (l:pN) (hl:sO l):H3 l=some (FR l):=by
 unfold sO at hl;have h:=aGM (f:=R7 l) (n:=l.length) (XT l) (fun _=>false) (fun i h=>by
  unfold R7;rw[aSn (wV h),aSn (uV h),aGP,aOZ,XN,aSq,aGQ];have h0: ∀q:Bool,((q==false)&&(decide (0<i)==true))=true->0<i:=fun q hq=>by
   simp only[aSA,aT2,aSx] at hq;exact hq.2
  rw[aSn (fun hq=>by have:=h0 _ hq;unfold qP;omega),aSn (fun hq=>by have:=h0 _ hq;omega),aSn (yH pQ)];rfl) (by
  unfold R7;rw[aSo (BB _)])
 unfold H3;rw[h,aGN];rfl
def aGR {l:List sX}{i:Nat}:qT rW l (i:Int)=l.getD i fD:=by unfold qT;rw[aTi];rfl
def aO1 {l:List sX}{i:Nat}:qT rW l ((i:Int)-1)=l.getD (i-1) fD:=by
 unfold qT;rw[show ((i:Int)-1).toNat=i-1 by omega];rfl
def Y7 (x:sX):Prop:=sO x.1/\sO x.2.1
def SI {α:Type}{l:List α}{i:Nat}{d:α}(h:i<l.length):l.getD i d∈l:=by
 rw[aSO,aSv h];exact aTB h
def aGS {i:Nat}{q:Bool}(hq:((q==false)&&(decide (0<i)==true))=true):0<i:=by
 simp only[aSA,aT2,aSx] at hq;exact hq.2
def aGT (l:List sX) (hl:sO l) (hx: ∀x∈l,Y7 x):FO l=some (wA l):=by
 unfold sO at hl;have h:=aGM (f:=RK l) (n:=l.length) (XU l) (fun _=>false) (fun i h=>by
  unfold RK;have hf:=hx _ (SI (d:=fD) h);rw[aSn (wV h),aSn (uV h),aGR,aO1,XN,aSq,aGQ,ME _ hf.2];rw[aSn G1,aSn (fun hq=>by have:=aGS hq;unfold qP;omega),aSn (fun hq=>by have:=aGS hq;omega),aSn (yH pQ)];rfl) (by
  unfold RK;rw[aSo (BB _)])
 unfold FO;rw[h,aGN];rfl
structure a8f (x:vM):Prop where
 id:sO x.1
 src:sO x.2.1
 tgt:sO x.2.2.1
 com:sO x.2.2.2.1/\∀y∈x.2.2.2.1,sO y
 flg:sO x.2.2.2.2.1/\∀y∈x.2.2.2.2.1,sO y
 fld:sO x.2.2.2.2.2.2.1/\∀y∈x.2.2.2.2.2.2.1,Y7 y
def aO2 (x:vM) (h:a8f x):JJ x=some (BD x):=by
 obtain⟨t1,t2⟩:=aGO _ h.com.1 h.com.2;have e1:=aO0 _ h.flg.1;have e2:=aGT _ h.fld.1 h.fld.2;unfold JJ;rw[ME _ h.id,ME _ h.src,ME _ h.tgt,t1,t2,e1,e2];have k: ∀s:pM,(decide ((s.length:Int)<=4000)&&Lib.validD s)=sK s:=fun s=>rfl;rw[aSn G1,aSq,aSn G1,aSn G1,aSn G1,aSn G1,k,k,k];unfold BD;show (if _ then some false else some _)=_;have a1:decide ((200:Int)<(x.1.length:Int))= !decide ((x.1.length:Int)<=200):=by rw[<-decide_not];exact aTX.2 pQ
 have a2:decide (x.2.2.2.2.2.1<(0:Int))= !decide ((0:Int)<=x.2.2.2.2.2.1):=by rw[<-decide_not];exact aTX.2 pQ
 have a3:decide ((4:Int)<x.2.2.2.2.2.1)= !decide (x.2.2.2.2.2.1<=(4:Int)):=by rw[<-decide_not];exact aTX.2 pQ
 rw[a1,a2,a3];show (if _ then some false else some (((((sK x.2.1&&sK x.2.2.1)&&wM x.2.2.2.1)&&FR x.2.2.2.2.1))&&wA x.2.2.2.2.2.2.1))=_;generalize decide (x.1=[])=b1;generalize decide ((x.1.length:Int)<=200)=b2;generalize sK x.1=b3;generalize sK x.2.1=b4;generalize sK x.2.2.1=b5;generalize wM x.2.2.2.1=b6;generalize FR x.2.2.2.2.1=b7;generalize decide ((0:Int)<=x.2.2.2.2.2.1)=b8;generalize decide (x.2.2.2.2.2.1<=(4:Int))=b9;generalize wA x.2.2.2.2.2.2.1=b10;cases b1<;>cases b2<;>cases b3<;>cases b8<;>cases b9<;>simp
def a8g (ids:pU) (es:List t7):Prop:= ∀x,sP .str .bool ids x=es.any fun y=>decide (y.1=x)
def aO3 {ids:pU}{es:List t7}(h:a8g ids es) (e:t7) (x:pM) (he:e.1=x):a8g (sY .str .bool x true ids) (es++[e]):=by
 intro y;rw[wW,List.any_append,<-h y];by_cases hy:y=x
 .rw[aSn hy];simp [he,hy]
 rw[aSo hy];have:decide (e.1=y)=false:=by rw[he];simpa using fun hh=>hy hh.symm
 simp [this]
def aGU {l:List vM}{i:Nat}:qT vB l (i:Int)=l.getD i eD:=by unfold qT;rw[aTi];rfl
structure a8h (c:C4):Prop where
 tag:sO c.1
 com:sO c.2.1/\∀y∈c.2.1,sO y
 fld:sO c.2.2.1/\∀y∈c.2.2.1,Y7 y
 len:c.2.2.2.1.length<=5000
 ent: ∀x∈c.2.2.2.1,a8f x
def aO4 {α:Type}{l:List α}{i:Nat}{d:α}(h:i<l.length):l.take (i+1)=l.take i++[l.getD i d]:=by
 rw[List.take_add_one,aSv h,aSO,aSv h];rfl
def aGV {c:C4}(hc:a8h c): ∀(n i:Nat) (m:pU),i+n=c.2.2.2.1.length->a8g m (c.2.2.2.1.take i)->
  sC (MA c) ((i:Int),m)=some (if (List.range' i n).any (HV c.2.2.2.1)=true then .inr false else .inl ())
 |0,i,m,hi,_=>by
  have:i=c.2.2.2.1.length:=by omega
  subst this;refine BV ?_;unfold MA;dsimp only;rw[aSo (BB _)];rfl
 |n+1,i,m,hi,hm=>by
  have h:i<c.2.2.2.1.length:=by omega
  have he:=hc.ent _ (SI (d:=eD) h);have hl:=hc.len;have hst:MA c ((i:Int),m)=if HV c.2.2.2.1 i=true then some (.inr (.inr false)) else some (.inl (((i+1:Nat):Int),sY .str .bool (c.2.2.2.1.getD i eD).1 true m)):=by
   unfold MA;dsimp only;rw[aSn (wV h),aSn (uV h),aGU,hm,aO2 _ he,aSn G1,aSn (yH pQ)];rfl
  rw[aT8,List.any_cons];by_cases hb:HV c.2.2.2.1 i=true
  .rw[aSn hb] at hst;rw[hb,Bool.true_or,aSn rfl];exact BV hst
  rw[aSo hb] at hst;rw[NP hst,aGV hc n (i+1) _ pQ (by rw[aO4 (d:=eD) h];exact aO3 hm _ _ rfl)];simp only[aTC] at hb;rw[hb,Bool.false_or]
def aO5 {c:C4}(hc:a8h c):MB c=some (D4 c):=by
 obtain⟨t1,t2⟩:=aGO _ hc.com.1 hc.com.2;have e2:=aGT _ hc.fld.1 hc.fld.2;have hlp:=aGV hc c.2.2.2.1.length 0 [] pQ (fun x=>by rfl);rw[<-List.range_eq_range'] at hlp;have hlp':sC (MA c) ((0:Int),[])=_:=hlp;have a1:decide ((1000:Int)<(c.2.2.2.1.length:Int))= !decide ((c.2.2.2.1.length:Int)<=1000):=by rw[<-decide_not];exact aTX.2 pQ
 unfold MB;rw[a7F,aSq,t1,t2,e2,aSn G1,aSn G1,hlp',a1];unfold D4;show (if (((!xH c.1)||(!wM c.2.1))||(!wA c.2.2.1)||_)=true then some false else _)=_
 generalize xH c.1=b1;generalize wM c.2.1=b2;generalize wA c.2.2.1=b3;generalize decide ((c.2.2.2.1.length:Int)<=1000)=b4;generalize (List.range c.2.2.2.1.length).any (HV c.2.2.2.1)=b5;cases b1<;>cases b2<;>cases b3<;>cases b4<;>cases b5<;>rfl
def far:Nat:=140737488351232
def G2 (l:pN):Prop:=l.length<=6000/\∀x∈l,x.length<=6000
def MK (l:List sX):Prop:=l.length<=6000/\∀x∈l,x.1.length<=6000/\x.2.1.length<=6000
structure SJ (x:vM):Prop where
 id:x.1.length<=6000
 src:x.2.1.length<=6000
 tgt:x.2.2.1.length<=6000
 com:G2 x.2.2.2.1
 flg:G2 x.2.2.2.2.1
 fld:MK x.2.2.2.2.2.2.1
structure Y8 (c:C4):Prop where
 tag:c.1.length<=100
 com:G2 c.2.1
 fld:MK c.2.2.1
 len:c.2.2.2.1.length<=1000
 ent: ∀x∈c.2.2.2.1,SJ x
def JX {l:pM}(h:l.length<=6000):sO l:=by unfold sO;omega
def a8j {l:pN}(h:G2 l):sO l/\∀y∈l,sO y:=⟨by have:=h.1;unfold sO;omega,fun y hy=>JX (h.2 y hy)⟩
def aGW {l:List sX}(h:MK l):sO l/\∀y∈l,Y7 y:=⟨by have:=h.1;unfold sO;omega,fun y hy=>⟨JX (h.2 y hy).1,JX (h.2 y hy).2⟩⟩
def SJ.fitP {x:vM}(h:SJ x):a8f x:=⟨JX h.id,JX h.src,JX h.tgt,a8j h.com,a8j h.flg,aGW h.fld⟩
def Y8.fitP {c:C4}(h:Y8 c):a8h c:=⟨JX (by have:=h.tag;omega),a8j h.com,aGW h.fld,by have:=h.len;omega,fun x hx=>(h.ent x hx).fitP⟩
def aGX {σ ρ α:Type}{f:σ->Option (σ⊕ρ)}(st:Int->List α->σ) (out:List α->ρ) {n M B:Nat}(g:Nat->List α) (hg: ∀i,i<n->(g i).length<=B)
  (hf: ∀(i:Nat) s,i<n->s.length+B<=M->f (st i s)=some (.inl (st ((i:Int)+1) (s++g i)))) (he: ∀s,f (st n s)=some (.inr (out s))):
  ∀(k i:Nat) (s:List α),i+k=n->s.length+k*B<=M->sC f (st i s)=some (out (s++(List.range' i k).flatMap g))
 |0,i,s,hi,_=>by
  have:i=n:=by omega
  subst this;rw[BV (he s)];simp
 |k+1,i,s,hi,hM=>by
  rw[aTy] at hM;have hgi:=hg i pQ;rw[NP (hf i s pQ pQ),show ((i:Int)+1)=((i+1:Nat):Int) by omega,aGX st out g hg hf he k (i+1) (s++g i) pQ (by rw[aSp];omega),aT8,aTJ,aSB]
def aGY {α:Type}{g:Nat->List α}{B:Nat}: ∀(k i:Nat),(∀j,i<=j->j<i+k->(g j).length<=B)->((List.range' i k).flatMap g).length<=k*B
 |0,i,_=>by simp
 |k+1,i,h=>by
  rw[aT8,aTJ,aSp,aTy];have h1:=aGY k (i+1) fun j h1 h2=>h j pQ pQ;have h2:=h i pQ pQ;omega
def Y9 {σ ρ α:Type}{f:σ->Option (σ⊕ρ)}(st:Int->List α->σ) (out:List α->ρ) {n M B:Nat}(g:Nat->List α) (hg: ∀i,i<n->(g i).length<=B) (s:List α) (hM:s.length+n*B<=M)
  (hf: ∀(i:Nat) s,i<n->s.length+B<=M->f (st i s)=some (.inl (st ((i:Int)+1) (s++g i)))) (he: ∀s,f (st n s)=some (.inr (out s))):
  sC f (st 0 s)=some (out (s++(List.range' 0 n).flatMap g)):=aGX st out g hg hf he n 0 s pQ hM
def a8k {α β:Type}{l:List α}{d:α}(h:α->List β):(List.range' 0 l.length).flatMap (fun i=>h (l.getD i d))=l.flatMap h:=by
 have e:(List.range' 0 l.length).map (fun i=>l.getD i d)=l:=by
  apply List.ext_getElem
  .simp
  intro i h1 h2;simp [aSO,h2]
 conv=>rhs;rw[<-e]
 rw[List.flatMap_map]
def SK {α β:Type}{l:List α}{h:α->List β}{B:Nat}(hb: ∀x∈l,(h x).length<=B):(l.flatMap h).length<=l.length*B:=by
 induction l with
 |nil=>simp
 |cons x l ih=>
  rw[aTJ,aSp,aSt,aTy];have h1:=hb x aSH;have h2:=ih fun y hy=>hb y (aSy _ hy);omega
def y7 (n b:Nat) (first:Bool):pM:=(JE (n:Int) (b:Int) first).getD []
def aO6:((List.range 256).all fun b=>[true,false].all fun f=>decide (JE 2 (b:Int) f=some (y7 2 b f))&&(decide (a5t 2 (b:Int) f=some (y7 2 b f))&&decide ((y7 2 b f).length<=6)))=true:=by kernel_rfl
def aGZ {n b:Nat}(hn:n=2) (hb:b<256) (f:Bool):JE (n:Int) (b:Int) f=some (y7 n b f)/\a5t (n:Int) (b:Int) f=some (y7 n b f)/\(y7 n b f).length<=6:=by
 have hf:f∈[true,false]:=by cases f<;>simp
 subst hn;have h:=aTd.1 (aTd.1 aO6 b (by simpa using hb)) f hf;simpa using h
def ML (n:Nat) (s:pM) (i:Nat):pM:=y7 n (s.getD i 0).toNat (decide (i=0))
def wH (n:Nat) (s:pM):pM:=(List.range' 0 s.length).flatMap (ML n s)
def aG0 {n:Nat}(hn:n=2) (s:pM) (i:Nat):(ML n s i).length<=6:=(aGZ hn (UInt8.toNat_lt _) _).2.2
def a8l {n:Nat}(hn:n=2) (s:pM):(wH n s).length<=6*s.length:=by
 have:=aGY (g:=ML n s) (B:=6) s.length 0 fun j _ _=>aG0 hn s j;unfold wH;omega
def aO7 {s:pM}{i:Nat}:sH s (i:Int)=((s.getD i 0).toNat:Int):=by unfold sH;rw[aTi]
def aO8 {i:Nat}:decide ((i:Int)=0)=decide (i=0):=aTX.2 pQ
def aO9 {l:q8}{g:Nat->pM}:l.flatMap (fun i=>uP (g i))=uP (l.flatMap g):=by
 induction l with
 |nil=>rfl
 |cons x l ih=>rw[aTJ,aTJ,aFY,ih]
def aPa (l:pM):(uP l).length=l.length:=by simp [uP]
def aPb {n:Nat}(hn:n=2) {s:pM}(hs:sO s):JG (n:Int) s=some (wH n s):=by
 unfold sO at hs;have hn4: ¬decide ((n:Int)=4)=true:=by simp;omega
 have h:=Y9 (f:=RL (n:Int) s) (fun i b=>(i,b)) (fun b=>b) (n:=s.length) (M:=10000000000000) (B:=6) (fun i=>uP (ML n s i)) (fun i _=>by rw[aPa];exact aG0 hn s i) [] pT (fun i b hi hM=>by
  obtain⟨e1,_,e3⟩:=aGZ hn (UInt8.toNat_lt (s.getD i 0)) (decide (i=0));unfold RL;dsimp only;rw[aSn (wV hi),aSo hn4,aSn (uV hi),aO7,aO8,e1,aSq];unfold FH;rw[aSn (by dsimp only;omega),aSq,aSn (yH pQ)];rfl) (fun b=>by
  unfold RL;dsimp only;rw[aSo (BB _)])
 unfold JG;rw[aSo pT,h,aO9];unfold uA;rw[aSq,List.nil_append,aFZ];rfl
def P0 (h:pM) (l:pN) (t:pM):pM:=h++(l.flatten++t)
def aG1 {l:pN}(h:G2 l) {i:Nat}(hi:i<l.length):(l.getD i []).length<=6000:=h.2 _ (SI hi)
def aG2 {l:List sX}(h:MK l) {i:Nat}(hi:i<l.length):(l.getD i fD).1.length<=6000/\(l.getD i fD).2.1.length<=6000:=h.2 _ (SI hi)
def aG3 {n:Int}(h0:0<=n) (h1:n<=4):(qT .str BC n).length<=10:=by
 have:n=0\/n=1\/n=2\/n=3\/n=4:=by omega
 rcases this with rfl|rfl|rfl|rfl|rfl<;>decide
def aPc {α β:Type}{f:α->β}{l:List α}:l.flatMap (fun x=>[f x])=l.map f:=by
 induction l with
 |nil=>rfl
 |cons x l ih=>rw[aTJ,ih];rfl
def aPd {x:vM}(h:BD x=true):0<=x.2.2.2.2.2.1/\x.2.2.2.2.2.1<=4:=by
 unfold BD at h;simp only[aSA,aSx] at h;exact h.1.2
def BG (n:Nat):Bool->pM->pM
 |_,[]=>[]
 |f,b::t=>y7 n b.toNat f++BG n false t
def aG4 (n:Nat): ∀(s:pM) (p:pM),p≠[]->(List.range' p.length s.length).flatMap (ML n (p++s))=BG n false s
 |[],p,_=>by simp [BG]
 |b::t,p,hp=>by
  have hl:0<p.length:=aTm.2 hp;rw[aSt,aT8,aTJ];have h1:ML n (p++b::t) p.length=y7 n b.toNat false:=by
   unfold ML;rw[show decide (p.length=0)=false by simp;exact hp];congr 2;rw[aSO,aSw (aSJ _),aTT];rfl
  have h2:=aG4 n t (p++[b]) pS;rw[aSp,aTr,aSB,aUe] at h2;rw[h1,h2];rfl
def a8m (n:Nat) (s:pM):wH n s=BG n true s:=by
 cases s with
 |nil=>rfl
 |cons b t=>
  unfold wH;rw[aSt,aT8,aTJ];have h2:=aG4 n t [b] pS;rw[aTr,aUe] at h2;rw[aSU,h2];rfl
def aPe {e:pM}(t:pM) (h:(yU e).2=e.length) (h0:e≠[]):yU (e++t)=yU e:=by
 match e,h,h0 with
 |[a],h,_=>simp [yU] at h
 |a::c::u,h,_=>
  show yU (a::c::(u++t))=yU (a::c::u);simp only[yU] at h|-;split
  .rfl
  rename_i h1;rw[aSo h1] at h;split
  .rfl
  rename_i h2;rw[aSo h2] at h;split
  .rfl
  rename_i h3;rw[aSo h3] at h;split
  .rfl
  rename_i h4;rw[aSo h4] at h;by_cases hx:c=120/\2<=u.length
  .rw[aSn hx,aSn ⟨hx.1,by rw[aSp];omega⟩,aT7 hx.2]
  rw[aSo hx] at h|-;by_cases hu:c=117/\4<=u.length
  .have: ¬(c=120/\2<=(u++t).length):=fun hh=>by
    have:=hu.1.symm.trans hh.1;exact absurd this pR
   rw[aSo this,aSn hu,aSn ⟨hu.1,by rw[aSp];omega⟩,aT7 hu.2]
  rw[aSo hu] at h;simp at h
def aPf {n:Int}{e:pM}(t:pM) (h:(uW n e).2=e.length) (h0:e≠[]):uW n (e++t)=uW n e:=by
 match e,h,h0 with
 |b::u,h,_=>
  show uW n (b::(u++t))=_;by_cases hb:b=92
  .rw[S2 hb] at h|-;rw[S2 hb];exact aPe (e:=b::u) t h pS
  by_cases hk:HU n b=true
  .rw[S3 hb hk,S3 hb hk]
  rw[S4 hb hk,S4 hb hk]
def aPg:((List.range 256).all fun b=>[true,false].all fun f=>decide (uW 2 (y7 2 b f)=([b.toUInt8],(y7 2 b f).length))&&(decide (y7 2 b f≠[])&&decide (tR 34 (y7 2 b f++[34])=some (y7 2 b f).length)))=true:=by kernel_rfl
def P1 (_n:Nat):UInt8:=34
def aG5 {n:Nat}(hn:n=2) (b:UInt8) (f:Bool):uW (n:Int) (y7 n b.toNat f)=([b],(y7 n b.toNat f).length)/\y7 n b.toNat f≠[]/\tR (P1 n) (y7 n b.toNat f++[P1 n])=some (y7 n b.toNat f).length:=by
 have hf:f∈[true,false]:=by cases f<;>simp
 have hb:b.toNat<256:=UInt8.toNat_lt b;have hbb:b.toNat.toUInt8=b:=by simp
 subst hn;have h:=aTd.1 (aTd.1 aPg b.toNat (by simpa using hb)) f hf;simp only[aSA,aSx,hbb] at h;exact⟨h.1,h.2.1,h.2.2⟩
def aG6 {n:Nat}(hn:n=2): ∀(s:pM) (f:Bool) (k:Nat),(BG n f s).length<=k->BE (n:Int) k (BG n f s)= .inl s
 |[],f,k,_=>by
  cases k<;>rfl
 |b::t,f,k,hk=>by
  obtain⟨h1,h2,_⟩:=aG5 hn b f;unfold BG at hk|-;obtain⟨e,he⟩: ∃e,y7 n b.toNat f=e:=⟨_,rfl⟩;rw[he] at h1 h2 hk|-;have hp:=aPf (BG n false t) (by rw[h1]) h2;rw[h1] at hp;rw[aSp] at hk;have hl:0<e.length:=aTm.2 h2;obtain⟨k',rfl⟩: ∃k',k=k'+1:=⟨k-1,pQ⟩;obtain⟨a,u,rfl⟩: ∃a u,e=a::u:=by
   cases e with
   |nil=>exact absurd rfl h2
   |cons a u=>exact⟨a,u,rfl⟩
  rw[List.cons_append] at hp|-;unfold BE;rw[hp,aSo pS];dsimp only;rw[<-List.cons_append,List.drop_left,aG6 hn t false k' pQ];rfl
def aPh {n:Nat}(hn:n=2) (s:pM):wN (n:Int) (wH n s)=(s,0,0):=by
 unfold wN;rw[a8m,aG6 hn s true _ (aSJ _)]
def a8n {d:UInt8}: ∀(m:Nat) (e t:pM),e.length<=m->tR d (e++[d])=some e.length->tR d (e++t)=(tR d t).map (· +e.length)
 |_,[],t,_,_=>by simp
 |0,_::_,_,h,_=>by simp at h
 |m+1,b::u,t,hm,h=>by
  rw[List.cons_append] at h|-;rw[aSt] at hm;by_cases hb:b=d
  .rw[XW hb] at h;simp at h
  by_cases h9:b=92
  .rw[XX hb h9] at h;rw[XX hb h9];cases u with
   |nil=>simp [XV] at h
   |cons c v=>
    simp only[List.cons_append,aUu,aTG] at h|-;rw[aSt] at hm;have h':tR d (v++[d])=some v.length:=by
     cases hq:tR d (v++[d]) with
     |none=>rw[hq] at h;cases h
     |some k=>rw[hq] at h;simp at h;rw[h]
    rw[a8n m v t pQ h',Option.map_map];congr 1
  rw[XY hb h9] at h;rw[XY hb h9];have h':tR d (u++[d])=some u.length:=by
   cases hq:tR d (u++[d]) with
   |none=>rw[hq] at h;cases h
   |some k=>rw[hq] at h;simp at h;rw[h]
  rw[a8n m u t pQ h',Option.map_map];congr 1
def aG7 {n:Nat}(hn:n=2): ∀(s:pM) (f:Bool) (t:pM),tR (P1 n) (BG n f s++t)=(tR (P1 n) t).map (· +(BG n f s).length)
 |[],f,t=>by simp [BG]
 |b::u,f,t=>by
  obtain⟨_,_,h3⟩:=aG5 hn b f;unfold BG;rw[aSB,a8n _ _ _ (aSJ _) h3,aG7 hn u false t,Option.map_map];congr 1;funext k;simp only[Function.comp,aSp];omega
def aPi {n:Nat}(hn:n=2) (s z:pM):tR (P1 n) (wH n s++P1 n::z)=some (wH n s).length:=by
 rw[a8m,aG7 hn,XW rfl];simp
def aPj {l:List sX}{n v:pM}(h: ∀y∈l,y.1<n):yI l n v=l++[(n,(v,()))]:=by
 have h1:y5 l n=none:=by
  unfold y5;rw[aTu];intro y hy;have:=h y hy;simp only[aS2];intro he;rw[he] at this;exact List.lt_irrefl _ this
 have hk:uD l n=l.length:=by
  unfold uD;rw[aTu.2 fun y hy=>by rw[FS];simp [h y hy]];rfl
 unfold yI;rw[h1,hk,List.take_length,aTs,List.append_nil];rfl
def aG8 {x:pM}(h:xH x=true):sK x=true:=by
 unfold xH at h;simp only[aSA,aSR,aS7,aTC,aSx] at h;obtain⟨h0,h1,h2⟩:=h;unfold sK;rw[aSA,aSx];refine⟨pQ,aF5 fun c hc=>?_⟩;have:=h0 c hc;unfold RZ at this;simp only[aUg,aUa,aSA,aTI,aSx,aS2] at this;omega
def a8o {l:pN}(h:l.length<=20/\∀y∈l,y.length<=4000):G2 l:=⟨pQ,fun y hy=>by have:=h.2 y hy;omega⟩
def aG9 {l:List sX}(h:l.length<=20/\∀y∈l,y.1.length<=4000/\y.2.1.length<=4000):MK l:=⟨pQ,fun y hy=>by have:=h.2 y hy;omega⟩
def a7X.few {x:vM}(h:a7X x):SJ x:=⟨by have:=h.id;omega,by have:=h.src;omega,by have:=h.tgt;omega,a8o h.com,a8o h.flg,aG9 h.fld⟩
def aPk {c:C4}(h:D4 c=true):Y8 c:=by
 obtain⟨h1,h2,h3,h4,h5,_⟩:=aF6 h;obtain⟨c1,c2⟩:=JQ h2;obtain⟨g1,g2,g3⟩:=JR h3;refine⟨?_,a8o ⟨c1,fun y hy=>AG (c2 y hy)⟩,aG9 ⟨g1,fun y hy=>⟨AG (g2 y hy).2.1,AG (g2 y hy).2.2⟩⟩,h4,fun x hx=>(aN1 (h5 x hx)).few⟩;unfold xH at h1;simp only[aSA,aSx] at h1;omega
def YA:Nat->pN->q8
 |_,[]=>[]
 |a,x::ps=>(a+x.length)::YA (a+x.length) ps
theorem wY {l:pM}(h:l.length≤4000000000):(l.length:Int)≤9223372036854775807:=by omega
def qt (s:pM):pM:=(([34]:pM)++wH 2 s)++([34]:pM)
theorem DL {s:pM}(h:s.length≤6000):(qt s).length≤36002:=by
  have:=a8l (n:=2) rfl s;simp only[qt,aSp,aSt,aSF];omega
theorem MM {s:pM}(h:s.length≤6000):B9 s=some (qt s):=by
  have h1:=a8l (n:=2) rfl s;unfold B9;rw[show JG (2:Int) s=some (wH 2 s) from aPb (n:=2) rfl (JX h),aSq]
  repeat rw[aSn (wY (by simp only[aSp,aSt,aSF];omega))]
  rfl
abbrev P2:pM:=([32,32,99,111,109,109,101,110,116,32]:pM)
abbrev aHa:pM:=([32,32,102,105,101,108,100,32]:pM)
abbrev P3:pM:=([32,32,115,111,117,114,99,101,32]:pM)
abbrev P4:pM:=([32,32,116,97,114,103,101,116,32]:pM)
abbrev SL:pM:=([32,32,115,116,97,116,101,32]:pM)
abbrev aHb:pM:=([32,32,102,108,97,103,115,32]:pM)
abbrev aHc:pM:=([10,101,110,116,114,121,32]:pM)
abbrev yV:pM:=([101,110,100,10]:pM)
abbrev JY:pM:=([99,97,116,97,108,111,103,32]:pM)
def y8 (s:pM):pM:=(P2++qt s)++[10]
def G3 (l:pN):pM:=l.flatMap y8
theorem aHd {s:pM}(h:s.length≤6000):(y8 s).length≤36013:=by
  have:=DL h;simp only[y8,aSp,aSt,aSF];omega
theorem a8p {l:pN}(h:G2 l):(G3 l).length≤216078000:=by
  have:=SK (l:=l) (h:=y8) (B:=36013) fun x hx=>aHd (h.2 x hx);have h1:=h.1;unfold G3
  calc _≤l.length*36013:=this
    _≤6000*36013:=aTH _ h1
theorem aHe {l:pN}(h:G2 l):JI l=some (G3 l):=by
  have hl:=h.1
  have k:=Y9 (f:=RP l) (fun i s=>(s,i)) (fun s=>s) (n:=l.length) (M:=1000000000) (B:=36013) (fun i=>y8 (l.getD i [])) (fun i hi=>aHd (aG1 h hi)) [] pT (fun i s hi hM=>by
    have h2:=aG1 h hi;have h1:=DL h2;unfold RP;dsimp only;rw[aSn (wV hi),aSn (uV hi),aGP,MM h2,aSq]
    repeat rw[aSn (wY (by simp only[aSp,aSt,aSF];omega))]
    rw[aSn (yH pQ)];rfl) (fun b=>by
    unfold RP;dsimp only;rw[aSo (BB _)])
  unfold JI;rw[k,a8k (l:=l) (d:=[]) y8];rfl
def C5 (f:sX):pM:=(((aHa++qt f.1)++[32])++qt f.2.1)++[10]
def HZ (l:List sX):pM:=l.flatMap C5
theorem aHf {f:sX}(h:f.1.length≤6000∧f.2.1.length≤6000):(C5 f).length≤72014:=by
  have h1:=DL h.1;have h2:=DL h.2;simp only[C5,aSp,aSt,aSF];omega
theorem aHg {l:List sX}(h:MK l):(HZ l).length≤432084000:=by
  have:=SK (l:=l) (h:=C5) (B:=72014) fun x hx=>aHf (h.2 x hx);have h1:=h.1;unfold HZ
  calc _≤l.length*72014:=this
    _≤6000*72014:=aTH _ h1
theorem a8q {l:List sX}(h:MK l):HJ l=some (HZ l):=by
  have hl:=h.1
  have k:=Y9 (f:=RQ l) (fun i s=>(s,i)) (fun s=>s) (n:=l.length) (M:=1000000000) (B:=72014) (fun i=>C5 (l.getD i fD)) (fun i hi=>aHf (aG2 h hi)) [] pT (fun i s hi hM=>by
    have h2:=aG2 h hi;have h1:=DL h2.1;have h3:=DL h2.2;unfold RQ;dsimp only;rw[aSn (wV hi),aSn (uV hi),aGR,MM h2.1,aSq]
    repeat rw[aSn (wY (by simp only[aSp,aSt,aSF];omega))]
    rw[MM h2.2,aSq]
    repeat rw[aSn (wY (by simp only[aSp,aSt,aSF];omega))]
    rw[aSn (yH pQ)];rfl) (fun b=>by
    unfold RQ;dsimp only;rw[aSo (BB _)])
  unfold HJ;rw[k,a8k (l:=l) (d:=fD) C5];rfl
theorem aPl (x:pM) (r:pN):zW (x::r) [32]=x++r.flatMap (fun y=>[32]++y):=by
  unfold zW;rw[Lib.join_cons];unfold Lib.joinTail;rw[List.flatMap_def]
theorem aHh {l:pN}(h:G2 l):(zW l [32]).length≤36012000:=by
  cases l with
  |nil=>simp [zW,Lib.join_nil]
  | cons x r=>
    rw[aPl,aSp];have h1:=h.1;have h2:=h.2 x aSH
    have h3:=SK (l:=r) (h:=fun y=>[32]++y) (B:=6001) fun y hy=>by
      have:=h.2 y (aSy _ hy);simp only[aSp,aSt,aSF];omega
    simp only[aSt] at h1;have h4:r.length*6001≤6000*6001:=aTH _ pQ;omega
def P5 (l:pN):pM:=if l=[] then[] else(aHb++zW l [32])++[10]
theorem aPm {l:pN}(h:G2 l):(P5 l).length≤36012009:=by
  unfold P5;split
  .simp
  have:=aHh h
  simp only[aSp,aSt,aSF];omega
def MN (p s:pM):pM:=if s=[] then[] else(p++qt s)++[10]
def SM (n:Int):pM:=if n=0 then[] else(SL++qT .str BC n)++[10]
theorem aHi {p s:pM}(hp:p.length≤10) (h:s.length≤6000):(MN p s).length≤36013:=by
  have:=DL h;unfold MN;split
  .simp
  simp only[aSp,aSt,aSF];omega
theorem aPn {n:Int}(h0:0≤n) (h4:n≤4):(SM n).length≤19:=by
  have:=aG3 h0 h4;unfold SM;split
  .simp
  simp only[aSp,aSt,aSF];omega
def iA (x:vM):pM:=((aHc++qt x.1)++[10])++G3 x.2.2.2.1
def iB (x:vM):pM:=iA x++MN P3 x.2.1
def iC (x:vM):pM:=iB x++MN P4 x.2.2.1
def iD (x:vM):pM:=iC x++SM x.2.2.2.2.2.1
def iE (x:vM):pM:=iD x++P5 x.2.2.2.2.1
def JZ (x:vM):pM:=(iE x++HZ x.2.2.2.2.2.2.1)++yV
section
variable {x:vM}(h:SJ x) (h0:0≤x.2.2.2.2.2.1) (h4:x.2.2.2.2.2.1≤4)
include h
theorem aHj:(iA x).length≤216114010:=by
  have h1:=DL h.id;have h2:=a8p h.com;simp only[iA,aSp,aSt,aSF];omega
theorem aHk:(iB x).length≤216150023:=by
  have h1:=aHj h;have h2:=aHi (p:=P3) pR h.src;unfold iB;rw[aSp];omega
theorem aHl:(iC x).length≤216186036:=by
  have h1:=aHk h;have h2:=aHi (p:=P4) pR h.tgt;unfold iC;rw[aSp];omega
include h0 h4
theorem aHm:(iD x).length≤216186055:=by
  have h1:=aHl h;have h2:=aPn h0 h4;unfold iD;rw[aSp];omega
theorem aPo:(iE x).length≤252198064:=by
  have h1:=aHm h h0 h4;have h2:=aPm h.flg;unfold iE;rw[aSp];omega
theorem aPp:0≤x.2.2.2.2.2.1∧x.2.2.2.2.2.1<(BC.length:Int):=⟨h0,by simp only[BC,aSt,aSF];omega⟩
theorem aPq:M8 x=some (JZ x):=by
  have l1:=DL h.id;have l2:=a8p h.com;have l3:=DL h.src;have l4:=DL h.tgt;have l5:=aG3 h0 h4;have l6:=aHg h.fld;have l7:=aHj h;have l8:=aHk h;have l9:=aHl h;have l10:=aHm h h0 h4;have l11:=aPo h h0 h4;have hfl:=h.flg.1;have hst:=aPp h h0 h4;unfold M8;rw[MM h.id,aSq,aSn (wY (by simp only[aSp,aSt,aSF];omega)),aSn (wY (by simp only[aSp,aSt,aSF];omega)),aHe h.com,aSq,aSn (wY (l:=((aHc++qt x.1)++[10])++G3 x.2.2.2.1) (show (iA x).length≤_ by omega))]
  have e1:(if (!decide (x.2.1=([]:pM)))=true then
       (B9 x.2.1).bind fun O=>
       if ((P3++O).length:Int)≤9223372036854775807 then
        if (((P3++O)++([10]:pM)).length:Int)≤9223372036854775807 then
         if ((iA x++((P3++O)++([10]:pM))).length:Int)≤9223372036854775807 then
          some ((iA x++((P3++O)++([10]:pM))))
         else none
        else none
       else none
      else some (iA x))=some (iB x):=by
    unfold iB MN;by_cases e:x.2.1=[]
    .rw[aSo (by simp [e]),aSn e,List.append_nil]
    rw[aSn (by simp [e]),aSo e,MM h.src,aSq]
    repeat rw[aSn (wY (by simp only[aSp,aSt,aSF];omega))]
  refine(aSM (fun o=>uA o _) e1).trans ?_;unfold uA;rw[aSq]
  have e2:(if (!decide (x.2.2.1=([]:pM)))=true then
       (B9 x.2.2.1).bind fun Z=>
       if ((P4++Z).length:Int)≤9223372036854775807 then
        if (((P4++Z)++([10]:pM)).length:Int)≤9223372036854775807 then
         if ((iB x++((P4++Z)++([10]:pM))).length:Int)≤9223372036854775807 then
          some ((iB x++((P4++Z)++([10]:pM))))
         else none
        else none
       else none
      else some (iB x))=some (iC x):=by
    unfold iC MN;by_cases e:x.2.2.1=[]
    .rw[aSo (by simp [e]),aSn e,List.append_nil]
    rw[aSn (by simp [e]),aSo e,MM h.tgt,aSq]
    repeat rw[aSn (wY (by simp only[aSp,aSt,aSF];omega))]
  refine(aSM (fun o=>Option.bind o _) e2).trans ?_;rw[aSq]
  have e3:(if (!decide (x.2.2.2.2.2.1=(0:Int)))=true then
       if 0≤x.2.2.2.2.2.1∧x.2.2.2.2.2.1<(BC.length:Int) then
        if ((SL++qT .str BC x.2.2.2.2.2.1).length:Int)≤9223372036854775807 then
         if (((SL++qT .str BC x.2.2.2.2.2.1)++([10]:pM)).length:Int)≤9223372036854775807 then
          if ((iC x++((SL++qT .str BC x.2.2.2.2.2.1)++([10]:pM))).length:Int)≤9223372036854775807 then
           some ((iC x++((SL++qT .str BC x.2.2.2.2.2.1)++([10]:pM))))
          else none
         else none
        else none
       else none
      else some (iC x))=some (iD x):=by
    unfold iD SM;by_cases e:x.2.2.2.2.2.1=0
    .rw[aSo (by simp [e]),aSn e,List.append_nil]
    rw[aSn (by simp [e]),aSo e,aSn hst]
    repeat rw[aSn (wY (by simp only[aSp,aSt,aSF];omega))]
  refine(aSM (fun o=>Option.bind o _) e3).trans ?_;rw[aSq];by_cases e:x.2.2.2.2.1=[]
  · rw[aSo (by simp [e]),a8q h.fld,aSq,aSn (wY (by rw[aSp];omega)),aSn (wY (by simp only[aSp,aSt,aSF];omega))]
    unfold JZ iE P5;rw[aSn e,List.append_nil]
  have hj:=aHh h.flg
  have hE:iD x++((aHb++zW x.2.2.2.2.1 [32])++[10])=iE x:=by unfold iE P5;rw[aSo e]
  rw[aSn (by have:=aTm.2 e;simp;omega),aSn ⟨pQ,pQ⟩,aSn (wY (by simp only[aSp,aSt,aSF];omega)),aSn (wY (by simp only[aSp,aSt,aSF];omega)),aSn (wY (by simp only[aSp,aSt,aSF];omega)),a8q h.fld,aSq,hE,
    aSn (wY (by rw[aSp];omega)),aSn (wY (by simp only[aSp,aSt,aSF];omega))]
  rfl
end
def EU (c:C4):pM:=(((((JY++qt c.1)++[10])++G3 c.2.1)++HZ c.2.2.1))++yV
def aPr {c:C4}(hc:Y8 c):EK c=some (if D4 c=true then(EU c,c.2.2.2.1.map JZ,0) else([],[],1)):=by
 unfold EK;rw[aO5 hc.fitP,aSq];by_cases hok:D4 c=true
 .have hl:=hc.len;have ht:c.1.length<=6000:=by have:=hc.tag;omega
  have h1:=DL ht;have h2:=a8p hc.com;have h3:=aHg hc.fld;have k:=Y9 (f:=RT c) (fun i b=>(i,b)) (fun b=>b) (n:=c.2.2.2.1.length) (M:=1000000) (B:=1) (fun i=>[JZ (c.2.2.2.1.getD i eD)]) (fun i hi=>by simp) [] pT (fun i b hi hM=>by
   obtain⟨r0,r4⟩:=aPd (aF4 hok hi);unfold RT;dsimp only;rw[aSn (wV hi),aSn (uV hi),aGU,aPq (hc.ent _ (SI hi)) r0 r4,aSq,aSn pT,aSn (yH pQ)]) (fun b=>by
   unfold RT;dsimp only;rw[aSo (BB _)])
  rw[hok,aSo (show¬(!true)=true from by decide),aSn rfl,MM ht,aSq]
  repeat rw[aSn (wY (by simp only[aSp,aSt,aSF];omega))]
  rw[aHe hc.com,aSq,aSn (wY (by simp only[aSp,aSt,aSF];omega)),a8q hc.fld,aSq]
  repeat rw[aSn (wY (by simp only[aSp,aSt,aSF];omega))]
  rw[k,a8k (l:=c.2.2.2.1) (d:=eD) (fun x=>[JZ x])];unfold uA;rw[aSq,List.nil_append,aPc];rfl
 simp only[aTC] at hok;rw[hok,aSn (show (!false)=true from rfl),aSo pR]
def I0 (l:pM):Prop:= ∃u,l=u++[10]/\(10:UInt8)∉u
def DM (ls:pN):Prop:= ∀l∈ls,I0 l
def P6:pN->Prop
 |[]=>True
 |l::r=>(I0 l\/(r=[]/\l≠[]/\(10:UInt8)∉l))/\P6 r
def MO:Nat->pM->pN
 |0,_=>[]
 |n+1,s=>if s=[] then[] else s.take (tJ s 0)::MO n (s.drop (tJ s 0))
def K0 (s:pM):pN:=MO s.length s
def aPs {s:pM}{a:Nat}(h:a<=s.length):tJ s a=a+tJ (s.drop a) 0:=by
 unfold tJ;rw[aTG,aSW];split<;>omega
def a8r {s:pM}(h:s≠[]):0<tJ s 0/\tJ s 0<=s.length:=Y5 (aTm.2 h)
def aPt {u t:pM}(h:(10:UInt8)∉u):tJ ((u++[10])++t) 0=(u++[10]).length:=by
 have hl:((u++[10])++t)[u.length]? =some 10:=by simp
 rw[aOu (i:=u.length) (aTo _) pS (fun j hj _ hju=>?_) (by
  have:=hl;rw[aSv pS] at this;exact aSr this)]
 .simp
 intro h10;have e:((u++[10])++t)[j]? =some u[j]:=by
  rw[aSB,aSG hju,aSv hju]
 rw[aSv hj,h10] at e;exact h (by rw[aSr e];exact aTB _)
def aPu {u:pM}(h:(10:UInt8)∉u):tJ u 0=u.length:=
 aOv fun j hj _ h10=>h (h10▸aTB hj)
def aHn: ∀(n m:Nat) (s:pM),s.length<=n->n<=m->MO m s=MO n s
 |0,m,s,h,_=>by
  have:s=[]:=aTj.1 pQ;subst this;cases m<;>simp [MO]
 |n+1,m,s,h,hm=>by
  obtain⟨m',rfl⟩: ∃m',m=m'+1:=⟨m-1,pQ⟩;unfold MO;by_cases hs:s=[]
  .rw[aSn hs,aSn hs]
  obtain⟨h1,h2⟩:=a8r hs;rw[aSo hs,aSo hs,aHn n m' _ (by rw[aSW];omega) pQ]
def a8s {s:pM}(hs:s≠[]):K0 s=s.take (tJ s 0)::K0 (s.drop (tJ s 0)):=by
 obtain⟨h1,h2⟩:=a8r hs;have hl:=aTm.2 hs;unfold K0;obtain⟨k,hk⟩: ∃k,s.length=k+1:=⟨s.length-1,pQ⟩;rw[hk,MO,aSo hs,aHn (s.drop (tJ s 0)).length k _ (aSJ _) (by rw[aSW];omega)]
def aPv {u t:pM}(h:(10:UInt8)∉u):K0 ((u++[10])++t)=(u++[10])::K0 t:=by
 rw[a8s pS,aPt h,aTK,List.drop_left]
def aHo: ∀(ls:pN),P6 ls->K0 ls.flatten=ls
 |[],_=>rfl
 |l::r,⟨h1,h2⟩=>by
  rw[aTh];rcases h1 with⟨u,rfl,hu⟩ |⟨rfl,hl,hu⟩
  .rw[aPv hu,aHo r h2]
  rw[List.flatten_nil,List.append_nil,a8s hl,aPu hu,List.take_length,aTs];rfl
def a8t: ∀{A B:pN},DM A->P6 B->P6 (A++B)
 |[],_,_,h=>h
 |l::A,B,hA,h=>⟨.inl (hA l aSH),a8t (fun x hx=>hA x (aSy _ hx)) h⟩
def a8u {A B:pN}(hA:DM A) (hB:DM B):DM (A++B):=fun x hx=>(aTc.1 hx).elim (hA x) (hB x)
def aPw {u:pM}:tS (u++[10])=u:=by
 unfold tS;rw[aSn pS];simp
def uZ:pN->St->Nat->(Nat×Int)⊕St
 |[],st,_=> .inr st
 |l::ls,st,a=>if (tZ st (tS l) ((a+l.length:Nat):Int)).1=0 then uZ ls (tZ st (tS l) ((a+l.length:Nat):Int)).2 (a+l.length) else .inl (a,(tZ st (tS l) ((a+l.length:Nat):Int)).1)
def YB (l:pM) (ls:pN) (st:St) (a:Nat):uZ (l::ls) st a=if (tZ st (tS l) ((a+l.length:Nat):Int)).1=0 then uZ ls (tZ st (tS l) ((a+l.length:Nat):Int)).2 (a+l.length) else .inl (a,(tZ st (tS l) ((a+l.length:Nat):Int)).1):=rfl
def aHp {s:pM}: ∀(n a:Nat) (st:St),a<=s.length->s.length<n+a->FX s n st a=uZ (K0 (s.drop a)) st a
 |0,a,_,h,hn=>by omega
 |n+1,a,st,h,hn=>by
  unfold FX;by_cases ha:a<s.length
  .have hne:s.drop a≠[]:=fun e=>by
    have:=aSM List.length e;simp only[aSW,aSF] at this;omega
   have e:=aPs h;obtain⟨h1,h2⟩:=a8r hne;rw[aSW] at h2;have hlen:((s.drop a).take (tJ (s.drop a) 0)).length=tJ (s.drop a) 0:=by rw[aS0,aSW];omega
   have hat:FW s a=(s.drop a).take (tJ (s.drop a) 0):=by
    unfold FW;rw[show tJ s a-a=tJ (s.drop a) 0 by omega]
   rw[aSn ha,a8s hne,uZ,hat,hlen,<-e,aHp n _ _ pQ pQ];rw[aUw,show a+tJ (s.drop a) 0=tJ s a by omega]
  have:a=s.length:=by omega
  subst this;rw[aSo ha,aTs];rfl
def aPx (s:pM):JT s=match uZ (K0 s) tO 0 with
 | .inl q=> .inl q
 | .inr st=>if st.op=true\/st.ends=[] then .inl (s.length,3) else .inr st:=by
 unfold JT;rw[aHp _ 0 _ (aTo _) pQ,aTG]
 first|done|rfl
def aHq: ∀(A B:pN) (st:St) (a:Nat) {st':St},uZ A st a= .inr st'->uZ (A++B) st a=uZ B st' (a+A.flatten.length)
 |[],B,st,a,st',h=>by
  cases h;simp
 |l::A,B,st,a,st',h=>by
  rw[List.cons_append,YB];rw[YB] at h;by_cases h0:(tZ st (tS l) ((a+l.length:Nat):Int)).1=0
  .rw[aSn h0] at h|-;rw[aHq A B _ _ h,aTh,aSp,aS5]
  rw[aSo h0] at h;cases h
def a8v {l:pM}{st st':St}{a:Nat}(h:tZ st (tS l) ((a+l.length:Nat):Int)=(0,st')):uZ [l] st a= .inr st':=by
 rw[YB,h,aSn rfl];rfl
def Ws (s:pM) (l:List Wd):Prop:= ∀n,s.length<n->xI n s=some l
def aPy {s:pM}{l:List Wd}(h:Ws s l):JS s=some l:=h _ (Nat.lt_succ_self _)
def YC:Ws [] []:=fun n hn=>by
 obtain⟨m,rfl⟩: ∃m,n=m+1:=⟨n-1,by simp at hn;omega⟩;exact aN9 m
def aHr {b:UInt8}(h:tU b=true):tK b=false:=by
 have h1:=(a7Y b).1 h;cases hg:tK b with
 |false=>rfl
 |true=>
      rcases(aF8 b).1 hg with e|e
      .exact absurd e h1.1
      exact absurd e h1.2.1
def aHs {b:UInt8}(h:tK b=true):tU b=false:=by
 cases hp:tU b with
 |false=>rfl
 |true=>rw[aHr hp] at h;cases h
def aPz {z:pM}(h:FT z=true):z.dropWhile tU=z/\z.head?≠some 34:=by
 cases z with
 |nil=>exact⟨rfl,by simp⟩
 |cons b u=>
  have hb:tK b=true:=h;refine⟨List.dropWhile_cons_of_neg (by rw[aHs hb];simp),fun e=>?_⟩;have:b=34:=by simpa using e
  rw[this] at hb;exact absurd hb pR
def a8w {g w z:pM}{l:List Wd}(hg: ∀b∈g,tK b=true) (hw:w≠[]) (hp: ∀b∈w,tU b=true) (hz:FT z=true) (h:Ws z l):Ws (g++(w++z)) ((false,w,())::l):=by
 intro n hn;obtain⟨m,rfl⟩: ∃m,n=m+1:=⟨n-1,pQ⟩;obtain⟨hz1,hz2⟩:=aPz hz;obtain⟨b,u,rfl⟩: ∃b u,w=b::u:=by
  cases w with
  |nil=>exact absurd rfl hw
  |cons b u=>exact⟨b,u,rfl⟩
 have hb:=hp b aSH;have e:(g++(b::u++z)).dropWhile tK=b::u++z:=by
  rw[List.dropWhile_append_of_pos hg,List.cons_append,List.dropWhile_cons_of_neg (by rw[aHr hb];simp)]
 have e1:(b::u++z).dropWhile tU=z:=by rw[List.dropWhile_append_of_pos hp,hz1]
 have e2:(b::u++z).takeWhile tU=b::u:=by
  rw[List.takeWhile_append_of_pos hp];have:z.takeWhile tU=[]:=by
   cases z with
   |nil=>rfl
   |cons c v=>exact List.takeWhile_cons_of_neg (by rw[aHs hz];simp)
  rw[this,List.append_nil]
 have hnx:AH (b::u++z)=some ((false,b::u,()),z):=by
  unfold AH;rw[aSo (by
   intro h;have:b=34:=by simpa using h
   exact((a7Y b).1 hb).2.2 this),e1,aSo hz2,e2]
 unfold xI;rw[e,aSo pS,hnx];show (xI m z).map _=_;rw[h m (by simp only[aSp,aSt] at hn;omega)];rfl
def aPA (x z:pM):qt x++z=34::(wH 2 x++34::z):=by simp [qt]
def YD {g x z:pM}{l:List Wd}(hg: ∀b∈g,tK b=true) (hx:sK x=true) (hz:FT z=true) (h:Ws z l):Ws (g++(qt x++z)) ((true,x,())::l):=by
 intro n hn;obtain⟨m,rfl⟩: ∃m,n=m+1:=⟨n-1,pQ⟩;rw[aPA] at hn|-;have e:(g++(34::(wH 2 x++34::z))).dropWhile tK=34::(wH 2 x++34::z):=by
  rw[List.dropWhile_append_of_pos hg,List.dropWhile_cons_of_neg pR]
 have hE:tR 34 (wH 2 x++34::z)=some (wH 2 x).length:=aPi (n:=2) rfl x z;have hU:wN 2 (wH 2 x)=(x,0,0):=aPh (n:=2) rfl x;have hD:(34::(wH 2 x++34::z)).drop ((wH 2 x).length+2)=z:=by
  rw[show (34::(wH 2 x++34::z))=(34::wH 2 x++[34])++z by simp,List.drop_append_of_le_length pS];rw[List.drop_of_length_le pS];rfl
 have hnx:AH (34::(wH 2 x++34::z))=some ((true,x,()),z):=by
  unfold AH;rw[aSn (show (34::(wH 2 x++34::z)).head? =some 34 from rfl)];rw[show (34::(wH 2 x++34::z)).drop 1=wH 2 x++34::z from rfl,hE];dsimp only;rw[aTK,hU,hD,aSn ⟨rfl,hx,hz⟩]
 unfold xI;rw[e,aSo pS,hnx];show (xI m z).map _=_;rw[h m (by simp only[aSp,aSt] at hn;omega)];rfl
def P7 {g k u:pM}(hg: ∀b∈g,tK b=true) (hk:(match k with|[]=>false|b::_=> !tK b&&decide (b≠35))=true):C2 (g++(k++u))=false:=by
 obtain⟨b,v,rfl⟩: ∃b v,k=b::v:=by
  cases k with
  |nil=>cases hk
  |cons b v=>exact⟨b,v,rfl⟩
 simp only[aSA,aSR,aSx] at hk;obtain⟨hb,h5⟩:=hk;rw[List.cons_append];unfold C2;rw[List.dropWhile_append_of_pos hg,List.dropWhile_cons_of_neg (by rw[hb];simp)];simp [h5]
def P8 {s:St}{line:pM}{l:List Wd}(n:Int) (hf:C2 line=false) (h:Ws line l):tZ s line n=sM s n (BF l):=by
 unfold tZ;rw[aPy h];exact aSo (by rw[hf];simp)
def a8x {s:St}{line:pM}(n:Int) (hf:C2 line=true):tZ s line n=(0,s):=by
 unfold tZ;exact aSn hf
def YE: ∀b∈([32,32]:pM),tK b=true:=by decide
def a8y: ∀b∈([32]:pM),tK b=true:=by decide
def K1: ∀b∈([]:pM),tK b=true:=by simp
def a8z {g k x:pM}(hg: ∀b∈g,tK b=true) (hk:k≠[]) (hp: ∀b∈k,tU b=true) (hx:sK x=true):Ws (g++(k++([32]++(qt x++[])))) [(false,k,()),(true,x,())]:=
 a8w hg hk hp rfl (YD a8y hx rfl YC)
def aHt {s:St}{x:pM}(n:Int) (hx:sK x=true):tZ s (P2++qt x) n=sM s n (.com x):=by
 have e:P2++qt x=[32,32]++(uX++([32]++(qt x++[]))):=by simp [uX]
 rw[e,P8 n (P7 YE pR) (a8z YE pR pR hx)];rfl
abbrev MP:pM:=[101,110,116,114,121,32]
def aPB {s:St}{x:pM}(n:Int) (hx:sK x=true):tZ s (MP++qt x) n=sM s n (.beg false x):=by
 have e:MP++qt x=[]++(FU++([32]++(qt x++[]))):=by simp [FU]
 rw[e,P8 n (P7 K1 pR) (a8z K1 pR pR hx)];rfl
def aPC {s:St}{x:pM}(n:Int) (hx:sK x=true):tZ s (JY++qt x) n=sM s n (.beg true x):=by
 have e:JY++qt x=[]++(D5++([32]++(qt x++[]))):=by simp [D5]
 rw[e,P8 n (P7 K1 pR) (a8z K1 pR pR hx)];rfl
abbrev SN (f:sX):pM:=((aHa++qt f.1)++[32])++qt f.2.1
def aPD {s:St}{f:sX}(n:Int) (h1:w9 f.1=true) (h2:sK f.2.1=true):tZ s (SN f) n=sM s n (.fld f.1 f.2.1):=by
 have e:SN f=[32,32]++(wO++([32]++(qt f.1++([32]++(qt f.2.1++[]))))):=by simp [wO,SN]
 rw[e,P8 n (P7 YE pR) (a8w YE pR pR rfl (YD a8y (a7S h1) rfl (YD a8y h2 rfl YC)))];have:BF [(false,wO,()),(true,f.1,()),(true,f.2.1,())]= .fld f.1 f.2.1:=by
  show ((ES [(true,f.1,()),(true,f.2.1,())]).map fun q=>wX.fld q.1 q.2).getD .bad=_;rw[show ES [(true,f.1,()),(true,f.2.1,())]=some (f.1,f.2.1) from aSn ⟨⟨rfl,rfl⟩,h1⟩];rfl
 rw[this]
def aPE {s:St}(n:Int):tZ s [101,110,100] n=sM s n .fin:=by
 have e:([101,110,100]:pM)=[]++(MH++[]):=by simp [MH]
 rw[e,P8 n (P7 K1 pR) (a8w K1 pR pR rfl YC)];rfl
def aPF:((List.range 256).all fun b=>[true,false].all fun f=> !((y7 2 b f).contains 10))=true:=by kernel_rfl
def aHu: ∀(s:pM) (f:Bool),(10:UInt8)∉BG 2 f s
 |[],_=>by simp [BG]
 |b::t,f=>by
  unfold BG;intro h;rcases aTc.1 h with h|h
  .have hf:f∈[true,false]:=by cases f<;>simp
   have:=aTd.1 (aTd.1 aPF b.toNat (by simpa using UInt8.toNat_lt b)) f hf;simp at this;exact this h
  exact aHu t false h
def a8A (x:pM):(10:UInt8)∉qt x:=by
 unfold qt;rw[a8m];intro h;simp only[aTc,aSI] at h;rcases h with(h|h) |h
 .exact absurd h pR
 .exact aHu x true h
 exact absurd h pR
def YF {p x:pM}(hp:(10:UInt8)∉p):(10:UInt8)∉p++qt x:=fun h=>(aTc.1 h).elim hp (a8A x)
def K2 (c:C4):pN:=((JY++qt c.1)++[10])::(c.2.1.map y8++(c.2.2.1.map C5++[yV]))
def aPG (c:C4):(K2 c).flatten=EU c:=by
 unfold K2 EU;simp only[aTh,List.flatten_append,List.flatten_nil,List.append_nil,<-List.flatMap_def];unfold G3 HZ;simp
def SO {u:pM}(h:(10:UInt8)∉u):I0 (u++[10]):=⟨u,rfl,h⟩
def aHv (x:pM):I0 (y8 x):=SO (YF pR)
def aPH (f:sX):I0 (C5 f):=SO (u:=SN f) fun h=>by
 rcases aTc.1 h with h|h
 .rcases aTc.1 h with h|h
  .exact YF pR h
  exact absurd h pR
 exact a8A _ h
def aHw:I0 yV:=⟨[101,110,100],rfl,pR⟩
def aHx {α:Type}{f:α->pM}(h: ∀x,I0 (f x)) (l:List α):DM (l.map f):=fun x hx=>by
 obtain⟨y,_,rfl⟩:=List.mem_map.1 hx;exact h y
def a8B {l:pM}(h:I0 l):DM [l]:=fun x hx=>by rw[aSI.1 hx];exact h
def P9 {l:pM}{r:pN}(h:I0 l) (hr:DM r):DM (l::r):=fun x hx=>(aSC.1 hx).elim (fun e=>e▸h) (hr x)
def aPI (c:C4):DM (K2 c):=P9 (SO (YF pR)) (a8u (aHx aHv _) (a8u (aHx aPH _) (a8B aHw)))
def MQ {s s':St}{u:pM}{ls:pN}{a:Nat}(h: ∀n,tZ s u n=(0,s')):uZ ((u++[10])::ls) s a=uZ ls s' (a+(u++[10]).length):=by
 rw[YB,aPw,h,aSn rfl]
def aHy: ∀(l:pN) (s:St) (a:Nat),s.op=true->s.cm.length+l.length<=20->(∀x∈l,sK x=true)->
  ∃la na,uZ (l.map y8) s a= .inr {s with cm:=s.cm++l,last:=la,name:=na}
 |[],s,a,_,_,_=>⟨s.last,s.name,by rw[List.append_nil];rfl⟩
 |x::r,s,a,ho,hl,hx=>by
  rw[aSt] at hl;obtain⟨la,na,e⟩:=aHy r {s with cm:=s.cm++[x],last:=uX,name:=[]} (a+(y8 x).length) ho pT (fun y hy=>hx y (aSy _ hy))
  refine⟨la,na,?_⟩;rw[aTw];refine(MQ (u:=P2++qt x) (s':={s with cm:=s.cm++[x],last:=uX,name:=[]}) fun n=>?_).trans (e.trans ?_)
  .rw[aHt n (hx x aSH),sM,aSo (by rw[ho];simp),aSo pQ]
  simp
def aHz: ∀(l:List sX) (s:St) (a:Nat),s.op=true->s.fd.length+l.length<=20->(∀x∈l,w9 x.1=true/\sK x.2.1=true)->(s.fd++l).Pairwise (fun a b=>a.1<b.1)->
  ∃la na,uZ (l.map C5) s a= .inr {s with fd:=s.fd++l,last:=la,name:=na}
 |[],s,a,_,_,_,_=>⟨s.last,s.name,by rw[List.append_nil];rfl⟩
 |x::r,s,a,ho,hl,hx,hp=>by
  rw[aSt] at hl;have hlt: ∀y∈s.fd,y.1<x.1:=fun y hy=>(aUs.1 hp).2.2 y hy x aSH;have hx1:(x.1,(x.2.1,()))=x:=rfl;obtain⟨la,na,e⟩:=aHz r {s with fd:=s.fd++[x],last:=wO,name:=x.1} (a+(C5 x).length) ho pT (fun y hy=>hx y (aSy _ hy)) (by simpa using hp)
  refine⟨la,na,?_⟩;rw[aTw];refine(MQ (u:=SN x) (s':={s with fd:=s.fd++[x],last:=wO,name:=x.1}) fun n=>?_).trans (e.trans ?_)
  .have hno: ¬(s.fd.any fun y=>decide (y.1=x.1))=true:=fun h=>by
    obtain⟨y,hy,h2⟩:=List.any_eq_true.1 h;have:=hlt y hy;rw[aSZ h2] at this;exact List.lt_irrefl _ this
   rw[aPD n (hx x aSH).1 (hx x aSH).2,sM,aSo (by rw[ho];simp),aSo hno,aSo pQ,aPj hlt]
  simp
def aHA {s:St}{a:Nat}(ho:s.op=true):uZ [yV] s a= .inr (uO (if s.ends=[] then(s.c.1,(s.cm,(s.fd,s.c.2.2.2))) else(s.c.1,(s.c.2.1,(s.c.2.2.1,(s.c.2.2.2.1++[s.x],()))))) (s.ends++[((a+4:Nat):Int)])):=
 a8v (by rw[show tS yV=[101,110,100] from rfl,aPE,sM,aSo (by rw[ho];simp)];rfl)
def aPJ {s:St}{a:Nat}(ho:s.op=true) (he:s.ends≠[]):uZ [yV] s a= .inr (uO (s.c.1,(s.c.2.1,(s.c.2.2.1,(s.c.2.2.2.1++[s.x],())))) (s.ends++[((a+4:Nat):Int)])):=by
 rw[aHA ho,aSo he]
def MR {A B:pN}{s m:St}{r:(Nat×Int)⊕St}{a:Nat}(h:uZ A s a= .inr m) (h2:uZ B m (a+A.flatten.length)=r):uZ (A++B) s a=r:=(aHq A B s a h).trans h2
def aHB (ls:pN) (x:vM):Prop:= ∀(c:C4) (ends:pW) (a:Nat),ends≠[]->(∀y∈c.2.2.2.1,y.1≠x.1)->c.2.2.2.1.length<1000->
 uZ ls (uO c ends) a= .inr (uO (c.1,(c.2.1,(c.2.2.1,(c.2.2.2.1++[x],())))) (ends++[((a+ls.flatten.length:Nat):Int)]))
def SP (ls:pN) (t:pM) (cm:pN) (fd:List sX):Prop:=uZ ls tO 0= .inr (uO (t,(cm,(fd,([],())))) [((ls.flatten.length:Nat):Int)])
def YG (ls:pN):Prop:= ∀(c:C4) (ends:pW) (a:Nat),uZ ls (uO c ends) a= .inr (uO c ends)
def aPK {c:C4}(ht:xH c.1=true) (hc:wM c.2.1=true) (hf:wA c.2.2.1=true):SP (K2 c) c.1 c.2.1 c.2.2.1:=by
 obtain⟨c1,c2⟩:=JQ hc;obtain⟨f1,f2,f3⟩:=JR hf;unfold SP;have e0:uZ (K2 c) tO 0=uZ (c.2.1.map y8++(c.2.2.1.map C5++[yV])) (yM tO (c.1,tO.c.2) c.1) (0+((JY++qt c.1)++[10]).length):=MQ fun n=>by
  rw[aPC n (aG8 ht),sM,aSo (by simp [tO,uO]),aSn ht]
 obtain⟨la,na,e1⟩:=aHy c.2.1 (yM tO (c.1,tO.c.2) c.1) (0+((JY++qt c.1)++[10]).length) rfl (by show 0+_<=_;omega) c2;obtain⟨la',na',e2⟩:=aHz c.2.2.1 {(yM tO (c.1,tO.c.2) c.1) with cm:=[]++c.2.1,last:=la,name:=na} (0+((JY++qt c.1)++[10]).length+(c.2.1.map y8).flatten.length) rfl (by show 0+_<=_;omega) (fun x hx=>⟨(f2 x hx).1,(f2 x hx).2.2⟩) (by simpa[yM] using f3)
 rw[e0];refine MR e1 (MR e2 ((aHA rfl).trans ?_));have hlen:(K2 c).flatten.length=0+((JY++qt c.1)++[10]).length+(c.2.1.map y8).flatten.length+(c.2.2.1.map C5).flatten.length+4:=by
  unfold K2;simp only[aTh,List.flatten_append,aSp,List.flatten_nil,aSF,aSt];omega
 rw[hlen];simp [yM,tO,uO]
def aPL:YG []:=fun _ _ _=>rfl
abbrev nI (l:q8):pW:=l.map fun n:Nat=>(n:Int)
def PA:List pN->List vM->Prop
 |[],[]=>True
 |g::G,x::es=>(g≠[]/\aHB g x)/\PA G es
 |_,_=>False
def aHC: ∀{G:List pN}{es:List vM}{c:C4}{ends:pW}{a:Nat},PA G es->ends≠[]->(c.2.2.2.1++es).Pairwise (fun a b=>a.1≠b.1)->(c.2.2.2.1++es).length<=1000->
  uZ G.flatten (uO c ends) a= .inr (uO (c.1,(c.2.1,(c.2.2.1,(c.2.2.2.1++es,())))) (ends++nI (YA a (G.map List.flatten))))
 |[],[],c,ends,a,_,_,_,_=>by
  show Sum.inr (uO c ends)=_;rw[List.append_nil,List.map_nil];show _=Sum.inr (uO _ (ends++[]));rw[List.append_nil]
 |g::G,x::es,c,ends,a,h,he,hp,hl=>by
  have hl':c.2.2.2.1.length+(es.length+1)<=1000:=by simpa using hl
  have h1:=h.1.2 c ends a he (fun y hy=>(aUs.1 hp).2.2 y hy x aSH) pQ;rw[aTh];refine MR h1 ?_;rw[aHC h.2 pS (by simpa using hp) pT];simp [YA,nI]
 |[],_::_,_,_,_,h,_,_,_=>h.elim
 |_::_,[],_,_,_,h,_,_,_=>h.elim
abbrev a8C (H:pN) (G:List pN):pW:=nI (H.flatten.length::YA H.flatten.length (G.map List.flatten))
def aPM {H T:pN}{G:List pN}{t:pM}{cm:pN}{fd:List sX}{es:List vM}(hH:SP H t cm fd) (hG:PA G es) (hT:YG T) (hp:es.Pairwise (fun a b=>a.1≠b.1)) (hl:es.length<=1000):
  uZ (H++(G.flatten++T)) tO 0= .inr (uO (t,(cm,(fd,(es,())))) (a8C H G)):=by
 refine MR hH (MR (aHC hG pS (by simpa using hp) (by simpa using hl)) ((hT _ _ _).trans ?_));simp [a8C,nI]
def aPN {H T:pN}{G:List pN}{t:pM}{cm:pN}{fd:List sX}{es:List vM}(hH:SP H t cm fd) (hG:PA G es) (hT:YG T) (hp:es.Pairwise (fun a b=>a.1≠b.1)) (hl:es.length<=1000)
  (hok:P6 (H++(G.flatten++T))):JT (H++(G.flatten++T)).flatten= .inr (uO (t,(cm,(fd,(es,())))) (a8C H G)):=by
 rw[aPx,aHo _ hok,aPM hH hG hT hp hl];exact aSo (by simp [uO])
def aPO (G:List pN):(G.map List.flatten).flatten=G.flatten.flatten:=by
 induction G with
 |nil=>rfl
 |cons g G ih=>rw[aTw,aTh,aTh,List.flatten_append,ih]
def K3 (s:pM):(qt s).length≤6*s.length+2:=by
  have:=a8l (n:=2) rfl s;simp only[qt,aSp,aSt,aSF];omega
def aPP {x:pM}(h:w9 x=true):x.length≤40:=by
  cases x with
  |nil=>simp
  | cons b t=>
    unfold w9 at h;simp only[aSA,aSR,aS2] at h;rw[aSt];omega
def aPQ {l:pN}(h:wM l=true):(G3 l).length≤480260:=by
  obtain⟨h1,h2⟩:=JQ h
  have:=SK (l:=l) (h:=y8) (B:=24013) fun x hx=>by
    have:=K3 x;have:=AG (h2 x hx);simp only[y8,aSp,aSt,aSF];omega
  unfold G3;have:=aTH 24013 h1;omega
def aPR {l:List sX}(h:wA l=true):(HZ l).length≤485080:=by
  obtain⟨h1,h2,_⟩:=JR h
  have:=SK (l:=l) (h:=C5) (B:=24254) fun x hx=>by
    have:=K3 x.1;have:=K3 x.2.1;have:=aPP (h2 x hx).1;have:=AG (h2 x hx).2.2;simp only[C5,aSp,aSt,aSF];omega
  unfold HZ;have:=aTH 24254 h1;omega
def aHD {c:C4}(h:D4 c=true):(EU c).length≤1000000:=by
  obtain⟨k1,k2,k3,_⟩:=aF6 h;have h1:=aPQ k2;have h2:=aPR k3;have h3:=K3 c.1;have h4:=AG (aG8 k1);unfold EU;simp only[aSp,aSt,aSF];omega
def aPS {s:pM}(hs:s.length<=1100000000) {st:St}(hr:JT s= .inr st):AB s=some (st.c.1,st.c.2.1,st.c.2.2.1,st.c.2.2.2.1,0,0):=by
 rw[aOW hs,hr];rfl
def aPT {x:vM}(hx:BD x=true):a7W [x]:=⟨by simp,fun y hy=>by rw[aSI.1 hy];exact hx,aUn _ _⟩
def aPU {a:Int}(h0:0<=a) (h1:a<65536) {n:Nat}(hn:0<n): ∃k:Nat,k<n/\Int.tmod (IntKind.wrap .i64 a) (n:Int)=(k:Int):=by
 obtain⟨m,rfl⟩:=Int.eq_ofNat_of_zero_le h0;refine⟨m%n,Nat.mod_lt _ hn,?_⟩;have hw:IntKind.wrap .i64 (m:Int)=(m:Int):=by
  have e:(m:Int) %2^64=m:=Int.emod_eq_of_lt pQ pQ;have e2:IntKind.wrap .i64 (m:Int)=if (true&&decide ((m:Int) %2^64>=2^63))=true then(m:Int) %2^64-2^64 else(m:Int) %2^64:=rfl;rw[e2,e,aSo pT]
 rw[hw];exact(Int.ofNat_tmod m n).symm
def aPV {c:C4}{H T:pN}{G:List pN}(hH:SP H c.1 c.2.1 c.2.2.1) (hG:PA G c.2.2.2.1) (hT:YG T) (hp:c.2.2.2.1.Pairwise (fun a b=>a.1≠b.1)) (hl:c.2.2.2.1.length<=1000) (hok:P6 (H++(G.flatten++T)))
  (hsm:(P0 H.flatten (G.map List.flatten) T.flatten).length<=1100000000):AB (P0 H.flatten (G.map List.flatten) T.flatten)=some (c.1,c.2.1,c.2.2.1,c.2.2.2.1,0,0):=by
 have e:P0 H.flatten (G.map List.flatten) T.flatten=(H++(G.flatten++T)).flatten:=by
  unfold P0;rw[List.flatten_append,List.flatten_append,aPO]
 exact aPS hsm (by rw[e];exact aPN hH hG hT hp hl hok)
def BH (t:pM):vM:=([97],([],([],([t],([],(0,([],())))))))
abbrev G4 (t:pM):C4:=([120],([],([],([BH t],()))))
abbrev D6:pM:=[10,101,110,116,114,121,32,34,97,34,10,32,32,99,111,109,109,101,110,116,32]
def aPW {t:pM}(h:sK t=true):BD (BH t)=true:=by
 have h1:wM [t]=true:=by
  unfold wM;simp [h]
 have h2:sK [97]=true:=by kernel_rfl
 have h3:sK []=true:=by kernel_rfl
 have h4:FR []=true:=by kernel_rfl
 have h5:wA []=true:=by kernel_rfl
 unfold BD BH;simp [h1,h2,h3,h4,h5]
def YH {t:pM}(h:sK t=true):D4 (G4 t)=true:=aN0 qD qD qD (aPT (aPW h))
def aHE:qt [97]=[34,97,34]:=by kernel_rfl
def aPX (t:pM):JZ (BH t)=D6++((qt t++[10])++yV):=by
 unfold JZ iE iD iC iB iA BH MN SM P5 G3 HZ;simp [y8,aHE]
def aHF {t:pM}(h:sK t=true):EK (([120]:pM),(([]:pN),(([]:List r5),(([(([97]:pM),(([]:pM),(([]:pM),(([t]:pN),(([]:pN),((0:Int),(([]:List r5),())))))))]:List t7),()))))=some (EU (G4 t),[D6++((qt t++[10])++yV)],0):=by
 have e:=aPr (aPk (YH h));rw[aSn (YH h)] at e;refine e.trans ?_;show some (EU (G4 t),[JZ (BH t)],(0:Int))=_;rw[aPX]
def aPY (t u:pM):EU (G4 t)=EU (G4 u):=rfl
def aPZ {s:St}{x:pM}(n:Int) (hx:sK x=true):tZ s (qt x) n=sM s n (.cont x):=by
 have hf:C2 (qt x)=false:=by
  have e:qt x=[]++([34]++(wH 2 x++[34])):=by simp [qt]
  rw[e];exact P7 K1 pR
 have hw:Ws (qt x) [(true,x,())]:=by
  have e:qt x=[]++(qt x++[]):=by simp
  rw[e];exact YD K1 hx rfl YC
 rw[P8 n hf hw];show sM s n (.cont (t8 [(true,x,())]).flatten)=_;simp [t8]
def G5 (a b:pM) (M:pN):pN:=[10]::(((MP++qt [97])++[10])::(y8 a::(M++[qt b++[10],yV])))
def aP0 {a b:pM}{M:pN}(ha:sK a=true) (hb:sK b=true) (hab:sK (a++b)=true) (hM: ∀s k,uZ M s k= .inr s):aHB (G5 a b M) (BH (a++b)):=by
 intro c ends p he hno hlt;have hany: ¬(c.2.2.2.1.any fun y=>decide (y.1=[97]))=true:=fun h=>by
  obtain⟨y,hy,h2⟩:=List.any_eq_true.1 h;exact hno y hy (aSZ h2)
 have e0:uZ (G5 a b M) (uO c ends) p=uZ (y8 a::(M++[qt b++[10],yV])) (yM (uO c ends) c [97]) (p+1+((MP++qt [97])++[10]).length):=by
  refine(MQ (u:=[]) (s':=uO c ends) fun n=>a8x n rfl).trans ?_;exact MQ fun n=>by
   rw[aPB n qD,sM,aSo (by simp [uO,he]),aSo pR,aSo (show¬((uO c ends).c.2.2.2.1.any fun y=>decide (y.1=[97]))=true from hany),aSo (show¬1000<=(uO c ends).c.2.2.2.1.length from by show¬1000<=c.2.2.2.1.length;omega)];rfl
 rw[e0];refine(MQ (u:=P2++qt a) (s':={yM (uO c ends) c [97] with cm:=[a],last:=uX,name:=[]}) fun n=>?_).trans ?_
 .rw[aHt n ha,sM,aSo (by simp [yM]),aSo (by simp [yM])];rfl
 refine MR (hM _ _) ?_;refine(MQ (u:=qt b) (s':={yM (uO c ends) c [97] with cm:=[a++b],last:=uX,name:=[]}) fun n=>?_).trans ?_
 .rw[aPZ n hb,sM];have hc:C1 {yM (uO c ends) c [97] with cm:=[a],last:=uX,name:=[]}=a:=rfl
  rw[hc,aSo (by simp [yM,uX]),aSn hab];rfl
 refine(aPJ rfl he).trans ?_;have hlen:(G5 a b M).flatten.length=1+((MP++qt [97])++[10]).length+(y8 a).length+M.flatten.length+(qt b++[10]).length+4:=by
  unfold G5;simp only[aTh,List.flatten_append,aSp,List.flatten_nil,aSF,aSt];omega
 have hn:((p+(G5 a b M).flatten.length:Nat):Int)=((p+1+((MP++qt [97])++[10]).length+((P2++qt a)++[10]).length+M.flatten.length+(qt b++[10]).length+4:Nat):Int):=by
  rw[hlen];show _=((p+1+((MP++qt [97])++[10]).length+(y8 a).length+M.flatten.length+(qt b++[10]).length+4:Nat):Int);congr 1;omega
 rw[hn];rfl
def PB (g:Bool):pM:=if g=true then[32,35,32,110,111,116,101,10,10] else[]
def PC (g:Bool):pN:=if g=true then[[32,35,32,110,111,116,101,10],[10]] else[]
def aP1 (g:Bool):(PC g).flatten=PB g:=by cases g<;>rfl
def aP2 (g:Bool) (s:St) (k:Nat):uZ (PC g) s k= .inr s:=by
 cases g with
 |false=>rfl
 |true=>
  show uZ ([[32,35,32,110,111,116,101,10]]++[[10]]) s k=_;exact MR (a8v (a8x _ pR)) (a8v (a8x _ pR))
def aP3 (g:Bool):DM (PC g):=by
 cases g with
 |false=>intro l hl;cases hl
 |true=>exact P9 ⟨[32,35,32,110,111,116,101],rfl,pR⟩ (a8B ⟨[],rfl,by simp⟩)
def aP4 {a b:pM}(g:Bool) (ha:sK a=true) (hb:sK b=true) (hab:sK (a++b)=true):
  AB (((EU (G4 a)++(D6++(qt a++[10])))++PB g)++((qt b++[10])++yV))=some ([120],[],[],[BH (a++b)],0,0):=by
 have hG:PA [G5 a b (PC g)] (G4 (a++b)).2.2.2.1:=⟨⟨by unfold G5;simp,aP0 ha hb hab (aP2 g)⟩,trivial⟩;have e:((EU (G4 a)++(D6++(qt a++[10])))++PB g)++((qt b++[10])++yV)=P0 (K2 (G4 (a++b))).flatten ([G5 a b (PC g)].map List.flatten) (List.flatten []):=by
  rw[aPG,aPY a (a++b)];unfold P0 G5;simp only[aTw,List.map_nil,aTh,List.flatten_nil,List.append_nil,List.flatten_append,aP1,aHE];simp [y8]
 have hw:DM (G5 a b (PC g)):=P9 ⟨[],rfl,by simp⟩ (P9 (SO (YF pR)) (P9 (aHv a) (a8u (aP3 g) (P9 (SO (a8A b)) (a8B aHw)))));have hq1:=K3 a;have hq2:=K3 b;have hl1:=AG ha;have hl2:=AG hb;have hh:=aHD (YH ha);have hm:(PB g).length<=9:=by cases g<;>decide
 rw[e];refine aPV (c:=G4 (a++b)) (aPK qD qD qD) hG aPL (aUn _ _) pS (a8t (aPI _) (a8t (by rw[aTh,List.flatten_nil,List.append_nil];exact hw) trivial)) ?_;rw[<-e];simp only[aSp,aSt,aSF];omega
def a8D {x:pM}(h:x.length<=4000):EI x=some ()/\((decide ((x.length:Int)<=4000))&&val (yT x))=sK x:=aNy x (by unfold sO;omega)
def aP5 {s:pM}(hs:s.length<=far) {p:Int}(h0:0<=p) (h1:p<65536) (g:Bool):JM s p g=some true:=by
 obtain⟨k,hk,hke⟩:=aPU h0 h1 (show 0<s.length+1 by omega);have hke:Int.tmod (IntKind.wrap .i64 p) ((s.length:Int)+(1:Int))=(k:Int):=hke;have hk':k<=s.length:=by omega
 unfold far at hs;unfold JM;rw[aOX,aSq,aSo pR,aSn (by unfold qP;omega),aSn pQ,hke,S0,HR];by_cases hl:s.length<=4000
 .have hA:=a8D hl;have hB:=a8D (x:=s.take k) (by rw[aS0];omega);have hC:=a8D (x:=s.drop k) (by rw[aSW];omega);have r0:0<=(0:Int)/\(0:Int)<=(k:Int)/\(k:Int)<=(s.length:Int):=⟨pQ,pQ,pQ⟩;have r1:0<=(k:Int)/\(k:Int)<=(s.length:Int)/\(s.length:Int)<=(s.length:Int):=⟨pQ,pQ,pQ⟩;rw[hA.1,aSq,hA.2,hB.2,hC.2,aSn (fun _=>r0),aSn (fun _=>by rw[hB.1];rfl),aSn (fun _=>r1),aSn (fun _=>by rw[hC.1];rfl)];by_cases ht:(((!sK s)||(!sK (s.take k)))||(!sK (s.drop k)))=true
  .rw[aSn ht]
  rw[aSo ht];simp only[aTN,aSR,not_or,Bool.not_eq_false] at ht;obtain⟨⟨t1,t2⟩,t3⟩:=ht;rw[aSn r0,aHF t2,aSq,aSn r1,aHF t3,aSq];dsimp only;have hn: ∀z:pM,qT .str [z] (0:Int)=z:=fun _=>rfl;obtain⟨A,hA'⟩: ∃A,D6++((qt (s.take k)++[10])++yV)=A:=⟨_,rfl⟩;obtain⟨B,hB'⟩: ∃B,D6++((qt (s.drop k)++[10])++yV)=B:=⟨_,rfl⟩;have lA:A.length=(D6++(qt (s.take k)++[10])).length+4:=by rw[<-hA'];simp only[aSp,aSt,aSF]<;>omega
  have lB:B.length=21+((qt (s.drop k)++[10])++yV).length:=by rw[<-hB'];simp only[aSp,aSt,aSF]<;>omega
  have cB:rV B 0 21=D6:=by
   rw[<-hB',show (21:Int)=((21:Nat):Int) from rfl,S0];exact List.take_left' rfl
  have cB2:rV B 21 (B.length:Int)=(qt (s.drop k)++[10])++yV:=by
   rw[show (21:Int)=((21:Nat):Int) from rfl,HR,<-hB'];exact List.drop_left' rfl
  have cA:rV A 0 ((A.length:Int)-4)=D6++(qt (s.take k)++[10]):=by
   have e:A=(D6++(qt (s.take k)++[10]))++yV:=hA'.symm.trans (aSB _ _ _).symm;rw[show ((A.length:Int)-4)=((D6++(qt (s.take k)++[10])).length:Nat) by omega,S0,e,aTK]
  have q1:=K3 (s.take k);have q2:=K3 (s.drop k);have q3:(s.take k).length<=4000:=by rw[aS0];omega
  have q4:(s.drop k).length<=4000:=by rw[aSW];omega
  have hh:=aHD (YH t2);have lA2:A.length<=30000:=by rw[lA];simp only[aSp,aSt,aSF];omega
  have lB2:B.length<=30000:=by rw[lB];simp only[aSp,aSt,aSF];omega
  have one:(0:Int)<=0/\(0:Int)<(List.length [A]:Int):=⟨aTq _,Int.one_pos⟩;have oneB:(0:Int)<=0/\(0:Int)<(List.length [B]:Int):=⟨aTq _,Int.one_pos⟩;have hm:(PB g).length<=9:=by cases g<;>decide
  rw[hA',hB',hn,hn,cB];rw[aSn (fun _=>one),aSn (fun _=>oneB),aSn (fun _=>oneB),aSn (fun _=>⟨pQ,pQ,pQ⟩)];have hno: ¬(((((((!decide ((0:Int)=0))||(!decide ((0:Int)=0)))||(!decide ((List.length [A]:Int)=(1:Int))))||(!decide ((List.length [B]:Int)=(1:Int))))||(decide ((A.length:Int)<(4:Int))))||(decide ((B.length:Int)<(21:Int))))||(!decide (D6=D6)))=true:=by
   have d1:decide ((A.length:Int)<4)=false:=by simp;omega
   have d2:decide ((B.length:Int)<21)=false:=by simp;omega
   rw[d1,d2];simp
  refine(aSo hno).trans ?_;have hmid:(if g=true then some ([32,35,32,110,111,116,101,10,10]:pM) else some ([]:pM))=some (PB g):=by cases g<;>rfl
  refine(aSM (fun o=>uA o _) hmid).trans ?_;unfold uA;rw[aSq,aSn one,aSn one,aSn (by unfold qP;omega),aSn ⟨pQ,pQ,pQ⟩,cA,aSn (wY (by simp only[aSp,aSt,aSF];omega)),aSn (wY (by simp only[aSp,aSt,aSF];omega)),aSn oneB,aSn ⟨pQ,pQ,pQ⟩,cB2,aSn (wY (by simp only[aSp,aSt,aSF];omega)),
   aP4 g t2 t3 (by rw[aTz];exact t1),aSq,aTz]
  rw[aSn (fun _=>⟨aTq _,Int.one_pos⟩),aSn (fun _=>⟨aTq _,Int.one_pos⟩),aSn (fun _=>⟨aTq _,Int.one_pos⟩)];have e1:qT vB [BH s] (0:Int)=BH s:=rfl;have e2:qT .str (BH s).2.2.2.1 (0:Int)=s:=rfl;show some (((((decide ((0:Int)=0))&&(decide ((List.length [BH s]:Int)=(1:Int))))&&(decide ((((qT vB [BH s] (0:Int)).2.2.2.1).length:Int)=(1:Int))))&&(decide ((qT .str ((qT vB [BH s] (0:Int)).2.2.2.1) (0:Int))=s))))=some true;rw[e1,e2];simp [BH]
 have hd:decide ((s.length:Int)<=4000)=false:=by simp;omega
 have hv:EI s=some ():=by
  unfold EI;exact aSn fun h=>by rw[hd] at h;cases h
 rw[hv,aSq,hd];simp only[Bool.false_and,Bool.not_false,Bool.true_or];rw[aSn (fun h=>by cases h),aSn (fun h=>by cases h),aSn (fun h=>by cases h),aSn (fun h=>by cases h),aSn trivial]
def aP6 (s:pM) (hs:s.length<=far) {p:Int}(h0:0<=p) (h1:p<65536) (g:Bool):JM s p g=some true:=aP5 hs h0 h1 g
end Go.Proofs.YtcpbaddnmpeipaaGreatDoor
namespace Go.Proofs.YtcpbaddnmpeipaaGreatDoor
open Go.ChangeShapes Go.WideShapes Go.ChangeAt Go.RowKit
section
variable {H:Type}{enc:TypeId×qB->H}{P:Program}
theorem aP7 (hl:laidOutB P=true) {W W':q9}(hb:Below W.heap.size W W'):
  ∀{ts:List TypeId}{vs:pX}{ds:List (DataW H)}{ps:List MemPlace},(∀t∈ts,P.readableRec t=true/\t<P.types.size)->
  DataW.TrodAll enc P W 0 (fun _=>true) true ts vs ds ps->(∀x∈ps,x.block<W.heap.size)->
  DataW.TrodAll enc P W' 0 (fun b=>decide (b<W.heap.size)) true ts vs ds ps:=by
 intro ts
 induction ts with
 |nil=>
  intro vs ds ps _ h _;obtain⟨rfl,rfl,rfl⟩:=trodAll_nil h;exact trodAll_mk0
 |cons t ts ih=>
  intro vs ds ps hr h hlt;obtain⟨v,vs',d,ds',p,q,rfl,rfl,rfl,h0,r0⟩:=trodAll_cons h;exact trodAll_cons_mk (Below.trod hl (hr t pS).1 (hr t pS).2 h0 hb (fun x hx=>hlt x (by simp [hx]))) (ih (fun t' ht'=>hr t' (by simp [ht'])) r0 (fun x hx=>hlt x (by simp [hx])))
theorem aP8 {f:Func}{s:ChangeSpec}{W W':q9}{args:Array qB}{ds gs:List (DataW H)}{before:List MemPlace}{tb:TypeId}
  (hl:laidOutB P=true) (hr: ∀t∈f.params.toList,P.readableRec t=true/\t<P.types.size)
  (hW:DataW.Whole enc P f.params.toList s.vars false W args.toList ds gs before) (hv:s.vars=[])
  (hfn:s.fn H ds={results:=[.lit (.bool true)],args:=ds}) (hrt:f.resultTypes= #[tb]) (htb:P.underlying tb=some .bool)
  (hb:Below W.heap.size W W'):s.post enc P f false true false false W args (.bool true) W':=by
 have hW':=hW;obtain⟨p,q,hA,hV,rfl,hfz,hnd⟩:=hW;rw[hv] at hV;obtain⟨rfl,rfl⟩:=trodVars_none hV;have hlt: ∀x∈p,x.block<W.heap.size:=fun x hx=>by simpa using hW'.lt x (by simp [hx])
 refine⟨ds,[],p++[],[],p,[],hW',?_,?_,?_,hb.frame _,fun h=>by cases h⟩
 .rw[List.append_nil,hfn,hrt];exact trodAll_mk1 (shut_bool htb true)
 .rw[List.append_nil,hfn];exact aP7 hl hb hr hA hlt
 rw[hv,List.append_nil,hfn];rfl
end
section
variable {H:Type}{enc:TypeId×qB->H}
theorem aP9 {C:Checked}{f:FuncId}{fn:Func}{s:ChangeSpec}{tb:TypeId}{G7:List (String×DataW Unit)}(own:ownKnob C.prog.godebug=none) {os:Os}(started:os.Started) (F:Stop.Interp)
  (noInit:C.prog.inits.idxOf? f=none) (hfn:C.prog.funcs[f]? =some fn)
  (hl:laidOutB C.prog=true) (hr: ∀t∈fn.params.toList,C.prog.readableRec t=true/\t<C.prog.types.size) (hv:s.vars=[])
  (hrt:fn.resultTypes= #[tb]) (htb:C.prog.underlying tb=some .bool)
  (hspec: ∀(ds:List (DataW H)) (W:q9) (args:Array qB) ps,DataW.TrodAll enc C.prog W 0 (fun _=>true) true fn.params.toList args.toList ds ps->s.fn H ds={results:=[.lit (.bool true)],args:=ds})
  (witness: ∃(w:q9) (tape:Tape) (i:Input),w.os=os/\(w.forCall tape i).Shaped C.prog/\i.vars=[]/\Input.okWide C.prog (w.forCall tape i) .any w.heap.size f i/\
   (OpenSpec.ofChange s).preRow enc C.prog fn [] false G7 (w.forCall tape i).memory i.args/\Assume.holds {} C.prog (lone (Frame.enter C.prog f i.args .normal) [] (w.forCall tape i)))
  (contract: ∀(W:q9) (base:Nat) (args:Array qB) (ds:List (DataW H)) (ps:List MemPlace),
   (∀(j:Nat) t v,fn.params[j]? =some t->args[j]? =some v->Value.okWide C.prog W .any base t v)->
   DataW.TrodAll enc C.prog W 0 (fun _=>true) true fn.params.toList args.toList ds ps->
   (∀x∈ps,x.block<W.heap.size)->(DataW.weightsEach C.prog fn.params.toList ds).all (·<=reachBytes)=true->laidMetH C.prog G7 W->W.ShapedOpen C.prog->
   Calls C.prog f args W fun e W'=>e= .returned (.bool true)/\Below W.heap.size W W'):
  ReturnsInHanded {} C os f .any ((OpenSpec.ofChange s).preRow enc C.prog fn [] false G7) (s.post enc C.prog fn false true false false):=by
 refine returnsInHanded_of_row (C:=C) (s:=OpenSpec.ofChange s) (F:=F) own started noInit hfn witness ?_;intro W base args ds gs before hval hW _ _ hsz hL hsh _;have hW':=hW;obtain⟨p,q,hA,hV,rfl,hfz,hnd⟩:=hW;have hV':DataW.TrodVars enc C.prog W (fun _=>true) s.vars gs q:=hV;rw[hv] at hV';obtain⟨rfl,rfl⟩:=trodVars_none hV';have hlt: ∀x∈p,x.block<W.heap.size:=fun x hx=>by simpa using hW'.lt x (by simp [hx])
 have hvt:(OpenSpec.ofChange s).bare.plain.varTypes C.prog=[]:=by
  simp [OpenSpec.ofChange,ChangeSpec.plain,hv];rfl
 rw[hvt,List.append_nil,List.append_nil] at hsz;refine(contract W base args ds p hval hA hlt hsz hL hsh).mono fun e W' ⟨he,hb⟩=>?_;subst he;exact⟨_,rfl,aP8 hl hr hW' hv (hspec ds W args p hA) hrt htb hb⟩
end
end Go.Proofs.YtcpbaddnmpeipaaGreatDoor
namespace Go.Proofs.YtcpbaddnmpeipaaGreatDoor
open Go.Shelf Go.Lib
open Vc
theorem aQa:(Rows.laid_unicode_utf8_first:DataW Unit)=Lib.firstData:=by kernel_rfl
theorem aQb:(Rows.laid_unicode_utf8_acceptRanges:DataW Unit)=Lib.acceptData:=by kernel_rfl
def aHG:pW:=[0,1,56,2,57,49,28,3,61,58,42,50,38,29,17,4,62,47,59,36,45,43,51,22,53,39,33,30,24,18,12,5,63,55,48,27,60,41,37,16,46,35,44,21,52,32,23,11,54,26,40,15,34,20,31,10,25,14,19,9,13,8,7,6]
theorem aQc:(Rows.laid_math_bits_deBruijn64tab:DataW Unit)=Lib.tabData .u8 aHG:=by kernel_rfl
theorem aQd {P:Program}{w:q9}{g:Nat}{t:TypeId}{k:IntKind}{zero:Array qB}(h:w.ShapedOpen P) (hg:g<P.globals.size)
  (h0:((begin P (fun _ _=>0) default).world.heap[g]?).bind Obj.row? =some (zero,t)) (hz:zero.size=1)
  (hb:P.buildable t=true) (hc:P.cellTypes P.depth t=some [t]) (hu:P.underlying t=some (.int k)): ∃m,w.cell? ⟨g,0,none⟩=some (.int k m):=by
 obtain⟨cs,hh,hs,hr⟩:=h.1 g zero t hg h0;obtain⟨ts,hts,_,hall⟩:=hr hb;rw[hc] at hts;cases hts;have h1:0<cs.size:=by omega
 obtain⟨u,hu',hok⟩:=hall 0 cs[0] (by simp [h1]);have:u=t:=by simpa using hu'.symm
 subst this;have hcell:w.cell? ⟨g,0,none⟩=some cs[0]:=by simp [World.cell?,hh,h1]
 rw[hcell];unfold Cell.ok at hok;rw[hu] at hok;cases hv:cs[0]<;>rw[hv] at hok<;>simp at hok
 rename_i k' m;exact⟨m,by rw[hok.1]⟩
theorem aQe {W:q9}(hsh:W.ShapedOpen Tryz.prog): ∃m,W.cell? ⟨0,0,none⟩=some (.int .i64 m):=
 aQd (t:=3) (zero:= #[.int .i64 0]) hsh (aSZ qD) qD rfl qD qD Tryz.underlying3
def aQf:Ren:=⟨fun x=>x,fun x=>if x=5 then 5 else if x=119 then 218 else if x=138 then 220 else 221,fun x=>if x=3 then 1 else 2⟩
theorem aQg {w:q9}{a:Addr}{v:qB}(h:w.cell? a=some v):a.block<w.heap.size:=by
 unfold World.cell? at h;split at h
 .rename_i hb;exact(aSP.1 hb).1
 cases h
theorem aQh {W:q9}(hL:laidMet Tryz.prog Rows.blocksPrintRow.laid W) (hsh:W.ShapedOpen Tryz.prog):EV W:=by
 obtain⟨m,hm⟩:=aQe hsh;have h0:=laidMet.reads hL (.tail _ (.head _));have h1:=laidMet.reads hL (.tail _ (.tail _ (.tail _ (.head _))));have h2:=laidMet.reads hL (.tail _ (.tail _ (.tail _ (.tail _ (.head _)))));rw[aQc] at h0;rw[aQa] at h2;rw[aQb] at h1;have hU:Lib.Utf8Tabs 1 2 W:=utf8Tabs_of_readsT (ρ:=aQf) ⟨qD,qD,qD,qD⟩ ⟨qD,qD,qD,qD,qD,qD,qD⟩ h2 h1;have hT:W.cell? ⟨5,15,none⟩=some (.int .u8 4):=by
  obtain⟨g,t,cs,fuel,p,hg,ht,hv,hd⟩:=h0;have hg0:Tryz.prog.globalNamed "math/bits.deBruijn64tab" =some 5:=by kernel_rfl
  have ht0:(Tryz.prog.globals[5]?).map (·.type)=some 273:=by kernel_rfl
  obtain rfl:=aSr (hg0.symm.trans hg);obtain rfl:=aSr (ht0.symm.trans ht);have hc:=cells_of_tab Tryz.underlying273 Tryz.underlying5 qD qD hd;rw[World.var?_cell hg hv 15,<-aTk,hc];rfl
 refine⟨?_,hU,⟨m,hm⟩,fun x hx=>?_⟩
 .have b0:5<W.heap.size:=aQg hT;show 6<=W.heap.size;omega
 unfold a8H at hx;obtain rfl:=aSI.1 hx;exact⟨pR,hT⟩
noncomputable def YI (os:Os):q9:=
 let w0:=World.holding Tryz.prog os ⟨#[],#[],[]⟩
 let u7 (h:Array Obj) (g:Nat) (cs:Array qB):Array Obj:=h.modify g fun
  | .cells _ t frozen=> .cells cs t frozen
  |o=>o
 let h1:=u7 w0.heap 1 (Lib.firstTab.map fun z=>Value.int .u8 z).toArray
 let h2:=u7 h1 2 ((List.range 16).flatMap fun i=>[Value.int .u8 (Lib.accLo i),Value.int .u8 (Lib.accHi i)]).toArray
 let h3:=u7 h2 5 (aHG.map fun z=>Value.int .u8 z).toArray
 let h4:=u7 h3 4 (([0,1,28,2,29,14,24,3,30,22,20,15,25,17,4,8,31,27,13,23,21,19,16,7,26,12,18,6,11,5,10,9]:pW).map fun z=>Value.int .u8 z).toArray
 let h5:=u7 h4 3 ((List.range 20).map fun i=>Value.int .u64 (10^i)).toArray
 {w0 with heap:=h5}
theorem aQi (os:Os) (args:Array qB):laidMet Tryz.prog Rows.blocksPrintRow.laid ((YI os).forCall (fun _ _=>0) ⟨#[],args,[]⟩).memory:=
 (LaidIn.of_run [4,5,3,2,1] 8 qD qD qD qD:LaidIn Tryz.prog _ Rows.blocksPrintRow.laid _).met
end Go.Proofs.YtcpbaddnmpeipaaGreatDoor
namespace Go.Proofs.YtcpbaddnmpeipaaGreatDoor
open Vc Go.RowKit
inductive a8E where
 |ty (t:TypeId) |fs (o:Nat) (l:List Field)
inductive AJ (P:Program):a8E->Ty->Prop
 |bool {t}:P.underlying t=some .bool->AJ P (.ty t) .bool
 |int {t k}:P.underlying t=some (.int k)->AJ P (.ty t) (.int k)
 |str {t}:P.underlying t=some .string->AJ P (.ty t) .str
 |list {t e u}:P.underlying t=some (.slice e)->P.cellsOf e=u.cells->0<u.cells->0<P.bytesOf e->AJ P (.ty e) u->AJ P (.ty t) (.list u)
 |struct {t fs ty}:ty.isRow=true->P.underlying t=some (.struct fs)->P.cellsOf t=ty.cells->AJ P (.fs 0 fs.toList) ty->AJ P (.ty t) ty
 |nil {o}:AJ P (.fs o []) .unit
 |cons {o}{f:Field}{r a b}:f.offset=o->P.cellsOf f.type=a.cells->AJ P (.ty f.type) a->AJ P (.fs (o+a.cells) r) b->AJ P (.fs o (f::r)) (.pair a b)
def Bd:(t:Ty)->t.den->Prop
 | .str,s=>List.length s<=140737488351232
 | .int k,n=>(Lit.int k n).wf=true
 | .list u,l=>List.length l<=140737488351232/\∀x:u.den,x∈(l:List u.den)->Bd u x
 | .pair a b,x=>Bd a x.1/\Bd b x.2
 |_,_=>True
def G6 (w:q9):Gh:=⟨fun b _=>b<w.heap.size,fun _=>none,fun _ _=>none⟩
theorem aHH {α:Type}{R:α->pX->Prop}{w:q9}{S:Nat->Nat->Prop}{c b:Nat}: ∀{l:List α}{o:Nat},(∀i x,l[i]? =some x->∃cs,cs.length=c/\w.rangeAt b (o+i*c) cs/\(∀j,j<c->S b (o+i*c+j))/\R x cs)->yC R w S c b o l
 |[],_,_=>trivial
 |x::l,o,h=>by
  refine⟨?_,aHH fun i y hy=>?_⟩
  .obtain⟨cs,h1,h2,h3,h4⟩:=h 0 x rfl;exact⟨cs,h1,by simpa using h2,by simpa using h3,h4⟩
  obtain⟨cs,h1,h2,h3,h4⟩:=h (i+1) y (by simpa using hy);have e:o+(i+1)*c=o+c+i*c:=by rw[aTy];omega
  exact⟨cs,h1,by rw[<-e];exact h2,by rw[<-e];exact h3,h4⟩
section
variable {H:Type}{enc:TypeId×qB->H}{P:Program}{W:q9}
theorem aHI {e:TypeId}: ∀{l:List (DataW H)}{i:Nat}{d:DataW H},l[i]? =some d->∀n∈d.weights P e,n∈DataW.weightsAll P e l
 |d0::l,0,d,h,n,hn=>by
  simp only[aSX,aSm] at h;subst h;simp only[DataW.weightsAll,aTc];exact .inl hn
 |d0::l,i+1,d,h,n,hn=>by
  simp only[aS6] at h;simp only[DataW.weightsAll,aTc];exact .inr (aHI h n hn)
 |[],_,_,h,_,_=>by simp at h
def aQj (enc:TypeId×qB->H) (P:Program) (W:q9):a8E->Ty->Prop
 | .ty t,u=> ∀(fuel:Nat) (cs:pX) (y:DataW H×List MemPlace),DataW.trod enc P W 0 (fun _=>true) true fuel t cs=some y->(∀n∈y.1.weights P t,n<=reachBytes)->∃x:u.den,Rd (G6 W) W u x cs/\Bd u x
 | .fs o l,u=> ∀(fuel:Nat) (cs:pX) (xs:List (DataW H×List MemPlace)),cs.length=o+u.cells->xs.length=l.length->(∀(i:Nat) (f:Field),l[i]? =some f->DataW.trod enc P W 0 (fun _=>true) true fuel f.type ((cs.drop f.offset).take (P.cellsOf f.type))=xs[i]?)->(∀n∈DataW.weightsEach P (l.map (·.type)) (xs.map (·.1)),n<=reachBytes)->∃x:u.den,Rd (G6 W) W u x (cs.drop o)/\Bd u x
theorem aQk {e:TypeId}{u:Ty}{a:Addr}{len cap:Nat}(hc:P.cellsOf e=u.cells) (hpos:0<u.cells) (hcap:len<=cap)
  (each: ∀i,i<len->∃(cs:pX) (x:u.den),W.cells? 0 (a.add (i*u.cells)) u.cells=some cs/\Rd (G6 W) W u x cs/\Bd u x):
  ∃l:List u.den,l.length=len/\Rd (G6 W) W (.list u) l [.slice (some a) len cap]/\∀x∈l,Bd u x:=by
 have build: ∀k,k<=len->∃l:List u.den,l.length=k/\∀i x,l[i]? =some x->∃cs:pX,W.cells? 0 (a.add (i*u.cells)) u.cells=some cs/\Rd (G6 W) W u x cs/\Bd u x:=by
  intro k
  induction k with
  |zero=>intro _;exact⟨[],rfl,fun i x h=>by simp at h⟩
  |succ k ih=>
   intro hk;obtain⟨l,h1,h2⟩:=ih pQ;obtain⟨cs,x,h3,h4⟩:=each k pQ;refine⟨l++[x],by simp [h1],fun i y hy=>?_⟩;rw[List.getElem?_append] at hy;split at hy
   .exact h2 i y hy
   rename_i hi;obtain⟨j,hj⟩: ∃j,i=l.length+j:=⟨i-l.length,pQ⟩;subst hj;rw[aTb] at hy;cases j with
   |zero=>
    simp only[aSX,aSm] at hy;subst hy;exact⟨cs,by rw[aTv,h1];exact h3,h4⟩
   |succ j=>simp at hy
 obtain⟨l,hll,hle⟩:=build len (aSJ _);refine⟨l,hll,?_,fun x hx=>?_⟩
 .subst hll;by_cases hl0:l=[]
  .subst hl0;exact⟨some a,cap,rfl,hcap,.inl rfl⟩
  obtain⟨b,off,spot⟩:=a;have hlp:0<l.length:=aTm.2 hl0;have hspot:spot=none:=by
   obtain⟨cs,x,h3,_⟩:=each 0 hlp;have h4:=(World.cells?_some h3).2.2 0 hpos;have hlen0:=(World.cells?_some h3).2.1;rw[aSv pQ] at h4;simpa[Addr.add] using World.cell?_spot h4
  subst hspot;refine⟨_,cap,rfl,hcap,.inr ⟨b,off,rfl,aHH fun i x hx=>?_⟩⟩;obtain⟨cs,h3,h4,_⟩:=hle i x hx;obtain⟨_,h5,h6⟩:=World.cells?_some h3;have hcell: ∀j v,cs[j]? =some v->W.cell? ⟨b,off+i*u.cells+j,none⟩=some v:=by
   intro j v hv;have hj:j<u.cells:=by have:=(aSD.1 hv).1;omega
   have:=h6 j hj;rw[hv] at this;rw[Addr.add_lit,Addr.add_lit] at this;exact this
  refine⟨cs,h5,hcell,fun j hj=>?_,h4⟩;exact Vc.Q9 (hcell 0 _ (aSv pQ))
 obtain⟨i,hi,he⟩:=aT5 hx;obtain⟨cs,h3,h4,h5⟩:=hle i x (by rw[aSv hi,he]);exact h5
theorem aQl {ix:a8E}{u:Ty}(h:AJ P ix u):aQj enc P W ix u:=by
 induction h with
 |bool ht=>
  intro fuel cs y hy _;obtain⟨b,rfl,_⟩:=DataW.trod_bool ht hy;exact⟨b,rfl,trivial⟩
 |int ht=>
  intro fuel cs y hy _;obtain⟨n,rfl,_,hw⟩:=DataW.trod_int ht hy;exact⟨n,rfl,hw⟩
 |str ht=>
  intro fuel cs y hy hw;obtain⟨s,rfl,rfl,_⟩:=DataW.trod_string ht hy;refine⟨s.data.toList,by show [Value.string s]=[Value.string ⟨s.data.toList.toArray⟩];rw[aTR],?_⟩;exact hw _ (by simp [DataW.weights])
 | @list t e u ht hc hpos hb _ ih=>
  intro fuel cs y hy hw;rcases DataW.trod_slice ht hy with⟨rfl,_⟩ |⟨a,len,cap,elems,rest,n,_,rfl,rfl,_,hl,_,hlen,hall,_,_⟩
  .exact⟨[],⟨none,0,rfl,aSJ _,.inl rfl⟩,by simp,fun x hx=>by cases hx⟩
  .have hws:DataW.weights P t (.slice (elems.map (·.1)) (rest.map (·.1)))=((elems.map (·.1)).length+(rest.map (·.1)).length)*P.bytesOf e::(DataW.weightsAll P e (elems.map (·.1))++DataW.weightsAll P e (rest.map (·.1))):=by
    simp [DataW.weights,ht]
   rw[hws] at hw;have hn:=hw _ aSH;obtain⟨l,h1,h2,h3⟩:=aQk (W:=W) (a:=a) (cap:=cap) hc hpos hl fun i hi=>by
    have h1:=hall i hi;rw[hc,aSv pQ,Option.bind_eq_some_iff] at h1;obtain⟨cs,h2,h3⟩:=h1;obtain⟨x,hx⟩:=ih n cs _ h3 fun m hm=>hw m (by
     refine aSy _ (aTc.2 (.inl (aHI (i:=i) ?_ m hm)));rw[List.getElem?_map,aSv pQ];rfl)
    exact⟨cs,x,h2,hx⟩
   refine⟨l,h2,?_,h3⟩;have:elems.length<=(elems.length+rest.length)*P.bytesOf e:=by
    calc elems.length<=(elems.length+rest.length)*1:=by omega
     _<=_:=Nat.mul_le_mul_left _ hb
   simp only[aTV] at hn;have hr:reachBytes=140737488351232:=rfl;show l.length<=_;omega
 |struct hrow ht hcl _ ih=>
  intro fuel cs y hy hw;obtain⟨xs,n,rfl,rfl,hl,hlen,hf⟩:=DataW.trod_struct ht hy;have:=ih n cs xs (by rw[hl,hcl];omega) (by rw[hlen];simp) (fun i f hi=>hf i f (by simpa using hi)) fun m hm=>hw m (by simpa[DataW.weights,ht] using hm);rwa [aTG] at this
 |nil=>
  intro fuel cs xs hl _ _ _;refine⟨(),?_,trivial⟩;show cs.drop _=[];exact List.drop_of_length_le (by simp [Ty.cells] at hl;omega)
 | @cons o f r a b ho hc _ _ iha ihb=>
  intro fuel cs xs hl hx hf hw;cases xs with
  |nil=>simp at hx
  |cons x0 xs=>
   have h0:=hf 0 f rfl;rw[hc,ho] at h0;obtain⟨xa,ra,ba⟩:=iha fuel _ x0 h0 fun m hm=>hw m (by simp only[aTw,DataW.weightsEach,aTc];exact .inl hm);obtain⟨xb,rb,bb⟩:=ihb fuel cs xs (by simp only[Ty.cells] at hl;omega) (by simpa using hx) (fun i f' hi=>by have:=hf (i+1) f' (by simpa using hi);simpa using this) fun m hm=>hw m (by simp only[aTw,DataW.weightsEach,aTc];exact .inr hm);refine⟨(xa,xb),⟨_,_,(aTz a.cells (cs.drop o)).symm,ra,?_⟩,ba,bb⟩;rw[aUw];exact rb
theorem a8F {t:TypeId}{u:Ty}{base:Nat}{v:qB}{d:DataW H}{ps:List MemPlace}(h:AJ P (.ty t) u) (hok:Value.okWide P W .any base t v) (hT:DataW.Trod enc P W 0 (fun _=>true) true t v d ps) (hw: ∀n∈d.weights P t,n<=reachBytes): ∃x:u.den,tB (G6 W) W u x v/\Bd u x:=by
 obtain⟨fuel,hf⟩:=hT;obtain⟨x,hx,hb⟩:=aQl (enc:=enc) (W:=W) h fuel _ _ hf hw;refine⟨x,?_,hb⟩;cases h with
 |bool ht=>obtain⟨b,rfl⟩:=Go.WideShapes.okWide_bool ht hok;exact .inr ⟨rfl,hx⟩
 |int ht=>obtain⟨b,rfl⟩:=Go.WideShapes.okWide_int ht hok;exact .inr ⟨rfl,hx⟩
 |str ht=>obtain⟨b,rfl⟩:=Go.WideShapes.okWide_string ht hok;exact .inr ⟨rfl,hx⟩
 |list ht=>obtain⟨a,l,c,rfl⟩:=Go.WideShapes.okWide_slice ht hok;exact .inr ⟨rfl,hx⟩
 |struct hrow ht=>obtain⟨cs,rfl,_⟩:=Go.WideShapes.okWide_struct ht hok;exact .inl ⟨hrow,cs.toList,by rw[aTR],hx⟩
end
end Go.Proofs.YtcpbaddnmpeipaaGreatDoor
namespace Go.Proofs.YtcpbaddnmpeipaaGreatDoor
open Vc
open Go.ChangeShapes Go.WideShapes Go.ChangeAt Go.RowKit
theorem aQm:AJ Tryz.prog (.ty 9) .str:= .str Tryz.underlying9
theorem aQn:AJ Tryz.prog (.ty 42) (.int .u16):= .int Tryz.underlying42
theorem aQo:AJ Tryz.prog (.ty 4) .bool:= .bool Tryz.underlying4
theorem aHJ {n:Int}(h:Bd (.int .u16) n):0<=n/\n<65536:=by
 have h':(Lit.int .u16 n).wf=true:=h;unfold Lit.wf at h';rw[aSA,aSx,aSx] at h';have h1:(0:Int)<=n:=h'.1;have h2:n<=2^16-1:=h'.2;omega
theorem aQp {W:q9}(hT:EV W) (v0 v1 v2:qB) (x0:pM) (x1:Int) (x2:Bool) (h0:tB (G6 W) W .str x0 v0) (h1:tB (G6 W) W (.int .u16) x1 v1) (h2:tB (G6 W) W .bool x2 v2) (B0:Bd .str x0) (B1:Bd (.int .u16) x1) (B2:Bd .bool x2):
  Calls Tryz.prog 5 #[v0,v1,v2] W fun e W'=>e= .returned (.bool true)/\Below W.heap.size W W':=by
 have hC:a7E (RX x0 x1 x2) XK=some (OP x0 x1 x2):=aM7 _ _ _;have ht:=aP6 x0 B0 (aHJ B1).1 (aHJ B1).2 x2;refine(aM9.1.2 (G6 W) W (RX x0 x1 x2) [v0,v1,v2] [] _ ⟨(fun i b h=>by cases h),(fun i j bi bj b o _ h=>by cases h),fun b o h=>h,hT,(fun i blk b o h=>by cases h)⟩ ⟨v0,[v1,v2],rfl,⟨h0,trivial⟩,v1,[v2],rfl,⟨h1,trivial⟩,v2,[],rfl,⟨h2,trivial⟩,rfl⟩ hC ?_).mono fun e W' ⟨v,g',he,r⟩=>?_
 .intro p hp;have:p=((JM x0 x1 x2).isSome=true):=by simpa[OP] using hp
  rw[this,ht];rfl
 have hv:v= .bool true:=by
  have h1:=r.ret;unfold OP at h1;rw[ht] at h1;exact vF h1.1
 subst hv;exact⟨he,⟨r.fr.os,r.fr.tape,r.fr.output,r.fr.size,fun k hk=>r.fr.blk k hk (fun o ⟨i,blk,hi,_⟩=>by cases hi)⟩⟩
end Go.Proofs.YtcpbaddnmpeipaaGreatDoor
namespace Go.Proofs.YtcpbaddnmpeipaaGreatDoor
open Go.ChangeShapes Go.WideShapes Go.ChangeAt Go.RowKit Go.Lib
theorem aQq:(Rows.blocksContinuedRow.inPlace==Tryz.prog.inPlace 5)=true:=by kernel_rfl
theorem aQr:(Rows.blocksContinuedRow.unfollowed==Tryz.prog.unfollowed 5)=true:=by kernel_rfl
theorem aQs:(Rows.blocksContinuedRow.recurses==Tryz.prog.recurses 5)=true:=by kernel_rfl
theorem aQt:(Rows.blocksContinuedRow.named==Tryz.prog.varsNamed 5)=true:=by kernel_rfl
theorem aQu:joinedFacts Tryz.prog 5 Tryz.f5 Rows.blocksContinuedSpec Rows.blocksContinuedRow=true:=by
 unfold joinedFacts;rw[aQq,aQr,aQs,aQt]
 kernel_rfl
namespace blocksContinuedLaw
theorem own:ownKnob Tryz.prog.godebug=none:=by kernel_rfl
theorem G7:laidOutB Tryz.prog=true:=by kernel_rfl
theorem aQv:Tryz.prog.readableRec 4=true:=by kernel_rfl
theorem aQw:4<Tryz.prog.types.size:=aSZ qD
theorem aQx:Tryz.prog.readableRec 9=true:=by kernel_rfl
theorem aQy:9<Tryz.prog.types.size:=aSZ qD
theorem aQz:Tryz.prog.readableRec 42=true:=by kernel_rfl
theorem aQA:42<Tryz.prog.types.size:=aSZ qD
theorem aQB (os:Os) {H:Type}(enc:TypeId×qB->H):
  (OpenSpec.ofChange Rows.blocksContinuedSpec).preRow enc Tryz.prog Tryz.f5 [] false Rows.blocksContinuedRow.laid ((YI os).forCall (fun _ _=>0) ⟨#[],#[.string ⟨#[]⟩,.int .u16 0,.bool false],[]⟩).memory #[.string ⟨#[]⟩,.int .u16 0,.bool false]:=by
 have hw:(DataW.whole enc Tryz.prog ((YI os).forCall (fun _ _=>0) ⟨#[],#[.string ⟨#[]⟩,.int .u16 0,.bool false],[]⟩).memory Tryz.f5.params.toList (OpenSpec.ofChange Rows.blocksContinuedSpec).vars false #[.string ⟨#[]⟩,.int .u16 0,.bool false].toList 8).map (fun x=>(x.1,x.2.1))=
   some ([.lit (.string []),.lit (.int .u16 0),.lit (.bool false)],[]):=by kernel_rfl
 obtain⟨⟨x1,x2,x3⟩,hx,hx1⟩:=aSE.1 hw;simp only[aSQ] at hx1;obtain⟨rfl,rfl⟩:=hx1;exact OpenSpec.preRow_of_cond 8 hx qD (fun k hk=>by cases hk) qD (aQi os _)
theorem lifted (os:Os) (started:os.Started) (H:Type) (enc:TypeId×qB->H) (F:Stop.Interp):
  ReturnsInHanded {} Tryz.checked os 5 .any ((OpenSpec.ofChange Rows.blocksContinuedSpec).preRow enc Tryz.prog Tryz.f5 [] false Rows.blocksContinuedRow.laid) (Rows.blocksContinuedSpec.post enc Tryz.prog Tryz.f5 false true false false):=by
 refine aP9 (C:=Tryz.checked) (tb:=4) own started F qD Tryz.func5 G7 ?_ rfl rfl Tryz.underlying4 ?_
  (witness_row_atRef (enc:=enc) (C:=Tryz.checked) false (YI os) #[.string ⟨#[]⟩,.int .u16 0,.bool false] rfl qD qD qD (aQB os enc)) ?_
 .intro t ht;rw[Tryz.params5] at ht;simp only[aSC,aTQ,or_false] at ht;rcases ht with rfl|rfl|rfl
  .exact⟨aQx,aQy⟩
  .exact⟨aQz,aQA⟩
  exact⟨aQv,aQw⟩
 .intro ds W args ps h;have h':DataW.TrodAll enc Tryz.prog W 0 (fun _=>true) true Tryz.f5.params.toList args.toList ds ps:=h;rw[Tryz.params5] at h';obtain⟨v0,v1,v2,d0,d1,d2,p0,p1,p2,rfl,rfl,rfl,h0,h1,h2⟩:=trodAll_three h';rfl
 intro W base args ds ps hval0 hA0 hlt hsz0 hL hsh;have hval: ∀(j:Nat) t v,Tryz.f5.params[j]? =some t->args[j]? =some v->Value.okWide Tryz.prog W .any base t v:=hval0;have hA:DataW.TrodAll enc Tryz.prog W 0 (fun _=>true) true Tryz.f5.params.toList args.toList ds ps:=hA0;have hsz:(DataW.weightsEach Tryz.prog Tryz.f5.params.toList ds).all (·<=reachBytes)=true:=hsz0;rw[Tryz.params5] at hA hval hsz;obtain⟨v0,v1,v2,d0,d1,d2,p0,p1,p2,rfl,rfl,rfl,h0,h1,h2⟩:=trodAll_three hA;obtain⟨x0,g0,B0⟩:=a8F aQm (hval 0 9 v0 rfl rfl) h0 (fun n hn=>by
  have:=aTd.1 hsz n (DataW.weights_mem_each (j:=0) rfl rfl n hn);simpa using this)
 obtain⟨x1,g1,B1⟩:=a8F aQn (hval 1 42 v1 rfl rfl) h1 (fun n hn=>by
  have:=aTd.1 hsz n (DataW.weights_mem_each (j:=1) rfl rfl n hn);simpa using this)
 obtain⟨x2,g2,B2⟩:=a8F aQo (hval 2 4 v2 rfl rfl) h2 (fun n hn=>by
  have:=aTd.1 hsz n (DataW.weights_mem_each (j:=2) rfl rfl n hn);simpa using this)
 exact aQp (aQh hL hsh) v0 v1 v2 x0 x1 x2 g0 g1 g2 B0 B1 B2
end blocksContinuedLaw
theorem aHK:Rows.BlocksContinuedSaid:=
 OpenClaim.holds_of_wide 5 Tryz.f5 rfl rfl rfl rfl rfl rfl rfl ⟨rfl,rfl,rfl,rfl,rfl⟩ rfl rfl rfl rfl rfl qD Tryz.func5 aQu
  (aSZ qD) (by unfold Func.isWrapper;first|(rw[aSn (by decide+kernel)];kernel_rfl) |(rw[aSo (by decide+kernel)];exact⟨rfl,rfl⟩))
  (fun os started H enc _=>by rw[OpenClaim.pre_eq_preRow];exact blocksContinuedLaw.lifted os started H enc (fun _ _ _=>0))
#print axioms aHK
end Go.Proofs.YtcpbaddnmpeipaaGreatDoor
namespace Go.Proofs.YtcpbaddnmpeipaaGreatDoor
open Go
theorem aQC:Rows.blocksContinuedRow.wfByText (OpenSpec.ofChange Rows.blocksContinuedSpec)=true:=by kernel_rfl
theorem aQD:Tryz.prog.mainIs=some (true, "5d87d424bdcb739eb2e592d3312f44549b2e7d9aae6f0497c2ce86444ec20ce9".toList):=by kernel_rfl
theorem aQE:false=Tryz.prog.looks []:=by kernel_rfl
theorem aQF:false=Rows.blocksContinuedRow.goesBy Tryz.prog:=by kernel_rfl
theorem aQG:Tryz.prog.funcNamed "calque/calquelaw39.BlocksContinued" =some 5:=by kernel_rfl
theorem aQH:([9,42,4].all fun u=> !Tryz.prog.wantsStandIn u)=true:=by kernel_rfl
theorem blocksContinuedCard_holds:Rows.BlocksContinuedCardSaid:=
 Claim7.holds_tied_plain_at .later [] [.data,.data,.data,.data,.pinned] true (true, "5d87d424bdcb739eb2e592d3312f44549b2e7d9aae6f0497c2ce86444ec20ce9") false
  aHK (fun _ h=>by cases h) aQC (fun _ h=>by cases h) blocksContinued_row_tie rfl ⟨rfl,rfl⟩ aQD rfl
  (fun f fn hf hfn=>by
   obtain rfl:f=5:=aSr (aQG.symm.trans hf) |>.symm
   obtain rfl:fn=Tryz.f5:=(aSr (Tryz.func5.symm.trans hfn)).symm;exact⟨aQE,fun j t ht=>by
    rw[Tryz.params5] at ht;have hm:t∈[9,42,4]:=by simpa using Array.mem_of_getElem? ht
    exact(show Tryz.prog.wantsStandIn t=false by simpa using aTd.1 aQH t hm)⟩)
  aQF
#print axioms blocksContinuedCard_holds
end Go.Proofs.YtcpbaddnmpeipaaGreatDoor
