/- Packed by a program of mine (wip/tools/pack.py): the same texts with short names and few blanks. -/
import Derived.Laws.BitsLemmas
import Derived.Lib.Index
import Derived.Lib.IndexAny
import Derived.Sort.Walk0
import Derived.Test.YtbbpilohihldiaaGreatDoorW03
set_option linter.defProp false
set_option linter.unusedVariables false
set_option linter.unusedSimpArgs false
set_option linter.unusedSectionVars false
set_option maxRecDepth 100000
set_option maxHeartbeats 4000000
namespace Go.Proofs.YtbbpilohihldiaaGreatDoor
open Vc
def BH (n:Int):Prop:=0≤n∧n≤1114111∧(n<55296∨57343<n)
def xJ (n:Int):Bool:=(((decide ((0:Int)≤n))&&(decide (n≤(1114111:Int))))&&((decide (n<(55296:Int)))||(decide ((57343:Int)<n))))
def IK (n:Int):xJ n=true↔BH n:=by
  unfold xJ BH;simp;omega
def XU {n:Int}(h0:0≤n) (h1:n≤127):Lib.encodeRune n=tE [n]:=by
  unfold Lib.encodeRune;rw[Lib.encodeRuneZ_one h0 h1];rfl
def XV {n:Int}(h0:128≤n) (h1:n≤2047):Lib.encodeRune n=tE [192+n/64,128+n%64]:=by
  unfold Lib.encodeRune;rw[Lib.encodeRuneZ_two h0 h1];rfl
def a9i {n:Int}(h:(2048≤n∧n<55296)∨(57343<n∧n≤65535)):Lib.encodeRune n=tE [224+n/4096,128+n/64%64,128+n%64]:=by
  unfold Lib.encodeRune;rw[Lib.encodeRuneZ_three h];rfl
def aHG {n:Int}(h0:65536≤n) (h1:n≤1114111):Lib.encodeRune n=tE [240+n/262144,128+n/4096%64,128+n/64%64,128+n%64]:=by
  unfold Lib.encodeRune;rw[Lib.encodeRuneZ_four h0 h1];rfl
def a9j {n:Int}(h:BH n):CO n=some (Lib.encodeRune n):=by
  obtain⟨h0,h1,hs⟩:=h;have w1:IntKind.i64.wrap (n/64)=n/64:=by rw[aWc];omega
  have w2:IntKind.i64.wrap (n/4096)=n/4096:=by rw[aWc];omega
  have w3:IntKind.i64.wrap (n/262144)=n/262144:=by rw[aWc];omega
  have m1:Int.tmod n 64=n%64:=aW4 h0;have m2:Int.tmod (n/64) 64=n/64%64:=aW4 pJ;have m3:Int.tmod (n/4096) 64=n/4096%64:=aW4 pJ;unfold CO;simp only[Int.tdiv_eq_ediv_of_nonneg h0,w1,w2,w3,m1,m2,m3,aWv];by_cases c1:n<128
  .rw[aU8 (by simpa using c1),XU h0 pJ,show n%256=n by omega]
  · rw[aVa (by simpa using c1)]
    by_cases c2:n<2048
    .rw[aU8 (by simpa using c2),aU8 (by unfold qJ;omega),aU8 (by unfold qJ;omega),XV pJ pJ,show (192+n/64) %256=192+n/64 by omega,show (128+n%64) %256=128+n%64 by omega]
    · rw[aVa (by simpa using c2)]
      by_cases c3:n<65536
      .rw[aU8 (by simpa using c3),aU8 (by unfold qJ;omega),aU8 (by unfold qJ;omega),aU8 (by unfold qJ;omega),a9i pJ,show (224+n/4096) %256=224+n/4096 by omega,show (128+n/64%64) %256=128+n/64%64 by omega,show (128+n%64) %256=128+n%64 by omega]
      .rw[aVa (by simpa using c3),aU8 (by unfold qJ;omega),aU8 (by unfold qJ;omega),aU8 (by unfold qJ;omega),aU8 (by unfold qJ;omega),aHG pJ pJ,show (240+n/262144) %256=240+n/262144 by omega,show (128+n/4096%64) %256=128+n/4096%64 by omega,show (128+n/64%64) %256=128+n/64%64 by omega,show (128+n%64) %256=128+n%64 by omega]
def a9k {n:Int}{k:Int}{j:Nat}(hj:k.toNat=j) (h32:j≤32):yC .i32 n k=n/2^j:=by
  unfold yC;rw[hj,show min j IntKind.i32.bits=j from Nat.min_eq_left h32,Int.fdiv_eq_ediv_of_nonneg];exact Int.pow_nonneg pK
def aOY {n:Int}(p:pP) (h:BH n) (hp:r8 p):JU p n=some (p++Lib.encodeRuneZ n):=by
  obtain⟨h0,h1,hs⟩:=h;unfold r8 at hp;have u:IntKind.u32.wrap n=n:=by rw[IntKind.wrap_u32];omega
  have s6:yC .i32 n 6=n/64:=a9k (j:=6) rfl pK;have s12:yC .i32 n 12=n/4096:=a9k (j:=12) rfl pK;have s18:yC .i32 n 18=n/262144:=a9k (j:=18) rfl pK
  have b0:bits .or .u8 128 (bits .and .u8 (n%256) 63)=128+n%64:=by
    rw[u8_and63 (x:=n%256) pJ pJ,show n%256%64=n%64 by omega,u8_or128 (y:=n%64) pJ pJ]
  have b1:bits .or .u8 128 (bits .and .u8 (n/64%256) 63)=128+n/64%64:=by
    rw[u8_and63 (x:=n/64%256) pJ pJ,show n/64%256%64=n/64%64 by omega,u8_or128 (y:=n/64%64) pJ pJ]
  have b2:bits .or .u8 128 (bits .and .u8 (n/4096%256) 63)=128+n/4096%64:=by
    rw[u8_and63 (x:=n/4096%256) pJ pJ,show n/4096%256%64=n/4096%64 by omega,u8_or128 (y:=n/4096%64) pJ pJ]
  unfold JU;rw[u];by_cases c1:n≤127
  .rw[aU8 (by simpa using c1),aU8 pM,Lib.encodeRuneZ_one h0 c1,aWv,show n%256=n by omega]
  · rw[aVa (by simpa using c1)]
    unfold LS;simp only[u,s6,s12,s18,aWv,b0,b1,b2];by_cases c2:n≤2047
    · rw[aU8 (by simpa using c2),aU8 pM,Lib.encodeRuneZ_two pJ c2,show n/64%256=n/64 by omega,u8_or192 (y:=n/64) pJ pJ]
      rfl
    · rw[aVa (by simpa using c2)]
      by_cases c3:n≤65535
      · have hx:(if decide (n<55296)=true then some (decide (n<55296)) else some ((decide (57343<n))&&(decide (n≤65535))))=some true:=by
          by_cases c:n<55296
          .rw[aU8 (by simpa using c)];simp [c]
          .rw[aVa (by simpa using c)];simp;omega
        rw[hx];simp only[sB,aU7];rw[aU8 trivial,aU8 pM,Lib.encodeRuneZ_three pJ,show n/4096%256=n/4096 by omega,u8_or224 (y:=n/4096) pJ pJ];rfl
      · have hx:(if decide (n<55296)=true then some (decide (n<55296)) else some ((decide (57343<n))&&(decide (n≤65535))))=some false:=by
          rw[aVa pM];simp;omega
        rw[hx];simp only[sB,aU7];rw[aVa pK,aU8 pM,aU8 pM,Lib.encodeRuneZ_four pJ h1,show n/262144%256=n/262144 by omega,u8_or240 (y:=n/262144) pJ pJ];rfl
def aHH (n:Int):(Lib.encodeRuneZ n).length≤4:=by
  unfold Lib.encodeRuneZ
  repeat' split
  all_goals simp
def aHI {n:Int}(p:pP) (h:BH n) (hp:r8 p): ∃k,GP (p,()) n=some (k,p++Lib.encodeRuneZ n):=by
  have h4:=aHH n;unfold r8 at hp;unfold GP;rw[aOY p h hp];simp only[aU7];rw[aU8 (by unfold qJ;simp;omega)];exact⟨_,rfl⟩
def aOZ (n:Int):SG [n] (0,[])=some (.inl (1,if xJ n=true then Lib.encodeRuneZ n else Lib.encodeRuneZ 65533)):=by
  unfold SG;have hn:rC (.int .i64) [n] 0=n:=rfl;dsimp only;rw[aU8 pL,aU8 ⟨aVW _,by simp⟩];simp only[hn];by_cases hs:xJ n=true
  · have hsc:=(IK n).1 hs
    obtain⟨k,hk⟩:=aHI (n:=n) [] hsc (by unfold r8;simp)
    have wn:IntKind.i32.wrap n=n:=by
      obtain⟨a,b,c⟩:=hsc;rw[IntKind.wrap_i32];omega
    rw[aU8 hs];unfold xJ at hs;rw[aVa (by rw[hs];decide),wn,hk];simp only[aU7,List.nil_append];rw[aU8 (by unfold qJ;omega)];rfl
  · rw[aVa hs]
    unfold xJ at hs;obtain⟨k,hk⟩:=aHI (n:=65533) [] (by unfold BH;omega) (by unfold r8;simp);rw[aU8 (by simp only[aVG] at hs|-;simpa using hs),show IntKind.i32.wrap 65533=65533 from rfl,hk];simp only[aU7,List.nil_append];rw[aU8 (by unfold qJ;omega)];rfl
def aO0 (n:Int):K4 n=some (if xJ n=true then Lib.encodeRune n else Lib.encodeRune 65533):=by
  unfold K4 OT;rw[HR (aOZ n),wW (r:=if xJ n=true then Lib.encodeRuneZ n else Lib.encodeRuneZ 65533) (by unfold SG;simp)];simp only[sB,aU7];by_cases hs:xJ n=true
  .rw[aU8 hs,aU8 hs];rfl
  .rw[aVa hs,aVa hs];rfl
def aHJ {l:pG}{i:Nat}(h:i<l.length):r7 l (i:Int)=((l.getD i 0).toNat:Int):=by
  rw[zL h,aVy,aVj h];rfl
def aO1 {s:pG}{x n:Int}{i:Nat}(h:i<s.length) (hn:(i:Int)<n) (hx:0≤x) (hx1:x≤1000000) (hi:i≤10):FF s n (x,(i:Int))=
    if (s.getD i 0).toNat/64=2 then some (.inl (64*x+(s.getD i 0).toNat-128,((i+1:Nat):Int))) else some (.inr (.inr (65533,1))):=by
  have hb:=(s.getD i 0).toNat_lt;have hy:=aHJ h;generalize (s.getD i 0).toNat=B at hb hy|-;unfold FF;dsimp only;rw[aU8 (by simpa using hn),aU8 (sN h),aU8 (fun _=>sN h),hy];by_cases hc:B/64=2
  · rw[aVa pM,aU8 hc,aU8 (by unfold qJ;omega),aU8 (sN h),show IntKind.i64.wrap (B:Int)=(B:Int) by rw[aWc];omega,
      aU8 (by unfold qJ;omega),aU8 (by unfold qJ;omega),aU8 (by unfold qJ;omega)]
    rfl
  .rw[aU8 pM,aVa hc]
def a9l {s:pG}{x n i:Int}(h:n≤i):FF s n (x,i)=some (.inr (.inl x)):=by
  unfold FF;dsimp only;rw[aVa (by simpa using h)]
def uN (s:pG) (i:Nat):Bool:=decide ((s.getD i 0).toNat/64=2)
def yJ (s:pG) (i:Nat) (x:Int):Int:=64*x+(s.getD i 0).toNat-128
def a9m {s:pG}{i:Nat}{x m:Int}(h0:0≤x) (hm:x≤m) (hc:uN s i=true):0≤yJ s i x∧yJ s i x≤64*m+63:=by
  have hb:=(s.getD i 0).toNat_lt;unfold uN at hc;unfold yJ;simp only[aVf] at hc;omega
def PB {s:pG}{x n:Int}{i:Nat}(h:i<s.length) (hn:(i:Int)<n) (hx:0≤x) (hx1:x≤1000000) (hi:i≤10):
    rE (FF s n) (x,(i:Int))=if uN s i=true then rE (FF s n) (yJ s i x,((i+1:Nat):Int)) else some (.inr (65533,1)):=by
  rw[yZ,aO1 h hn hx hx1 hi];unfold uN yJ;simp only[aVf];by_cases hc:(s.getD i 0).toNat/64=2
  .rw[aU8 hc,aU8 hc];rfl
  .rw[aVa hc,aVa hc];rfl
def aO2 {s:pG}{x:Int}(h:1<s.length) (hx:0≤x) (hx1:x≤31):rE (FF s 2) (x,1)=some (if uN s 1=true then .inl (yJ s 1 x) else .inr (65533,1)):=by
  show rE _ (x,((1:Nat):Int))=_;rw[PB h pK hx pJ pK];by_cases c1:uN s 1=true
  .rw[aU8 c1,aU8 c1,wW (a9l pK)]
  .rw[aVa c1,aVa c1]
def aO3 {s:pG}{x:Int}(h:2<s.length) (hx:0≤x) (hx1:x≤15):rE (FF s 3) (x,1)=some (if (uN s 1&&uN s 2)=true then .inl (yJ s 2 (yJ s 1 x)) else .inr (65533,1)):=by
  show rE _ (x,((1:Nat):Int))=_;rw[PB pJ pK hx pJ pK];by_cases c1:uN s 1=true
  · have b1:=a9m hx hx1 c1
    rw[aU8 c1,PB h pK b1.1 pJ pK,c1,Bool.true_and];by_cases c2:uN s 2=true
    .rw[aU8 c2,aU8 c2,wW (a9l pK)]
    .rw[aVa c2,aVa c2]
  .rw[aVa c1,aVa (by simp [c1])]
def aO4 {s:pG}{x:Int}(h:3<s.length) (hx:0≤x) (hx1:x≤7):rE (FF s 4) (x,1)=some (if (uN s 1&&uN s 2&&uN s 3)=true then .inl (yJ s 3 (yJ s 2 (yJ s 1 x))) else .inr (65533,1)):=by
  show rE _ (x,((1:Nat):Int))=_;rw[PB pJ pK hx pJ pK];by_cases c1:uN s 1=true
  · have b1:=a9m hx hx1 c1
    rw[aU8 c1,PB pJ pK b1.1 pJ pK,c1,Bool.true_and];by_cases c2:uN s 2=true
    · have b2:=a9m b1.1 b1.2 c2
      rw[aU8 c2,PB h pK b2.1 pJ pK,c2,Bool.true_and];by_cases c3:uN s 3=true
      .rw[aU8 c3,aU8 c3,wW (a9l pK)]
      .rw[aVa c3,aVa c3]
    .rw[aVa c2,aVa (by simp [c2])]
  .rw[aVa c1,aVa (by simp [c1])]
def vN (s:pG) (x:Int) (n:Nat):Int×Int:=if xJ x=true∧Lib.encodeRune x=s.take n then(x,n) else(65533,1)
def a9n {s:pG}{x:Int}{n:Nat}(hn:n≤s.length):
    (if (((!(((decide ((0:Int)≤x))&&(decide (x≤(1114111:Int))))&&((decide (x<(55296:Int)))||(decide ((57343:Int)<x)))))==false)=true→((CO x)).isSome=true) then
    if (((!(((decide ((0:Int)≤x))&&(decide (x≤(1114111:Int))))&&((decide (x<(55296:Int)))||(decide ((57343:Int)<x)))))==false)=true→0≤(0:Int)∧(0:Int)≤(n:Int)∧(n:Int)≤(s.length:Int)) then
     if ((!(((decide ((0:Int)≤x))&&(decide (x≤(1114111:Int))))&&((decide (x<(55296:Int)))||(decide ((57343:Int)<x)))))||(!decide ((val (CO x))=(qV s (0:Int) (n:Int)))))=true then
      some (((65533:Int),(1:Int)))
     else
      some ((x,(n:Int)))
    else none
   else none)=some (vN s x n):=by
  rw[XT];simp only[show (((decide ((0:Int)≤x))&&(decide (x≤(1114111:Int))))&&((decide (x<(55296:Int)))||(decide ((57343:Int)<x))))=xJ x from rfl]
  unfold vN;by_cases hs:xJ x=true
  · have ho:=a9j ((IK x).1 hs)
    rw[aU8 (fun _=>by rw[ho];rfl),aU8 (fun _=>⟨aVW _,pJ,pJ⟩),ho,hs];by_cases he:Lib.encodeRune x=s.take n
    .rw[aVa (by simp [val,he]),aU8 ⟨rfl,he⟩]
    .rw[aU8 (by simp [val,he]),aVa (fun h=>he h.2)]
  · have hs':xJ x=false:=by simpa using hs
    rw[aU8 (fun h=>by simp [hs'] at h),aU8 (fun h=>by simp [hs'] at h),aU8 (by simp [hs']),aVa (fun h=>hs h.1)]
def IL (z:Int) (l:pP) (x:UInt8) (h:z=(x.toNat:Int)):tE (z::l)=x::tE l:=by
  show UInt8.ofNat z.toNat::tE l=_;rw[h];simp
def a9o:tE []=[]:=rfl
def PC (l:pP):(tE l).length=l.length:=by simp [tE]
def aO5 {s:pG}(hl:1<s.length) (h0:192≤(s.getD 0 0).toNat) (h0':(s.getD 0 0).toNat<224) (hc:uN s 1=true):
    vN s (yJ s 1 ((s.getD 0 0).toNat-192)) 2=(((Lib.decodeL s).1:Int),((Lib.decodeL s).2:Int)):=by
  unfold uN at hc;simp only[aVf] at hc;have k0:=(s.getD 0 0).toNat_lt;have k1:=(s.getD 1 0).toNat_lt
  have hd:Lib.decodeL s=if (s.getD 0 0).toNat%32*64+(s.getD 1 0).toNat%64≥128 then((s.getD 0 0).toNat%32*64+(s.getD 1 0).toNat%64,2) else(65533,1):=by
    rw[Lib.decodeL_N];unfold Lib.decodeN;rw[aVa pJ,aU8 ⟨pJ,pJ,hc⟩]
  rw[hd];unfold vN yJ;rw[Lib.takeB s hl];have hx:xJ (64*((s.getD 0 0).toNat-192)+(s.getD 1 0).toNat-128)=true:=(IK _).2 (by unfold BH;omega);rw[hx];by_cases hv:(s.getD 0 0).toNat%32*64+(s.getD 1 0).toNat%64≥128
  · rw[aU8 hv,aU8 ⟨rfl,by
      rw[XV pJ pJ,IL _ _ (s.getD 0 0) pJ,IL _ _ (s.getD 1 0) pJ,a9o]⟩]
    exact Prod.ext (by show _=(((_:Nat)):Int);omega) rfl
  · rw[aVa hv,aVa (fun h=>by
      have h2:=aVL List.length h.2;rw[XU pJ pJ,PC] at h2;simp at h2)]
    rfl
def aO6 {s:pG}(hl:2<s.length) (h0:224≤(s.getD 0 0).toNat) (h0':(s.getD 0 0).toNat<240) (hc:uN s 1=true) (hc2:uN s 2=true):
    vN s (yJ s 2 (yJ s 1 ((s.getD 0 0).toNat-224))) 3=(((Lib.decodeL s).1:Int),((Lib.decodeL s).2:Int)):=by
  unfold uN at hc hc2;simp only[aVf] at hc hc2;have k0:=(s.getD 0 0).toNat_lt;have k1:=(s.getD 1 0).toNat_lt;have k2:=(s.getD 2 0).toNat_lt;obtain⟨V,hV⟩: ∃V,(s.getD 0 0).toNat%16*4096+(s.getD 1 0).toNat%64*64+(s.getD 2 0).toNat%64=V:=⟨_,rfl⟩
  have hd:Lib.decodeL s=if V≥2048∧(V<55296∨(57344≤V∧V≤1114111)) then(V,3) else(65533,1):=by
    rw[Lib.decodeL_N];unfold Lib.decodeN;rw[aVa pJ,aVa pJ,aU8 ⟨pJ,⟨pJ,hc⟩,pJ,hc2⟩,hV]
  rw[hd];unfold vN yJ;rw[Lib.takeC s hl];generalize hX:64*(64*(((s.getD 0 0).toNat:Int)-224)+(s.getD 1 0).toNat-128)+(s.getD 2 0).toNat-128=X;have hXV:X=(V:Int):=by omega
  by_cases hv:V≥2048∧(V<55296∨(57344≤V∧V≤1114111))
  · rw[aU8 hv,aU8 ⟨(IK _).2 (by unfold BH;omega),by
      rw[a9i pJ,IL _ _ (s.getD 0 0) pJ,IL _ _ (s.getD 1 0) pJ,IL _ _ (s.getD 2 0) pJ,a9o]⟩]
    exact Prod.ext hXV rfl
  · rw[aVa hv,aVa (fun h=>by
      have hs:=(IK _).1 h.1;unfold BH at hs;have hlt:X<2048:=by omega
      have h2:=aVL List.length h.2;by_cases h7:X≤127
      .rw[XU pJ h7,PC] at h2;simp at h2
      .rw[XV pJ pJ,PC] at h2;simp at h2)]
    rfl
def aO7 {s:pG}(hl:3<s.length) (h0:240≤(s.getD 0 0).toNat) (h0':(s.getD 0 0).toNat<248) (hc:uN s 1=true) (hc2:uN s 2=true) (hc3:uN s 3=true):
    vN s (yJ s 3 (yJ s 2 (yJ s 1 ((s.getD 0 0).toNat-240)))) 4=(((Lib.decodeL s).1:Int),((Lib.decodeL s).2:Int)):=by
  unfold uN at hc hc2 hc3;simp only[aVf] at hc hc2 hc3;have k0:=(s.getD 0 0).toNat_lt;have k1:=(s.getD 1 0).toNat_lt;have k2:=(s.getD 2 0).toNat_lt;have k3:=(s.getD 3 0).toNat_lt;obtain⟨V,hV⟩: ∃V,(s.getD 0 0).toNat%8*262144+(s.getD 1 0).toNat%64*4096+(s.getD 2 0).toNat%64*64+(s.getD 3 0).toNat%64=V:=⟨_,rfl⟩
  have hd:Lib.decodeL s=if V≥65536∧(V<55296∨(57344≤V∧V≤1114111)) then(V,4) else(65533,1):=by
    rw[Lib.decodeL_N];unfold Lib.decodeN;rw[aVa pJ,aVa pJ,aVa pJ,aU8 ⟨pJ,⟨pJ,hc⟩,⟨pJ,hc2⟩,pJ,hc3⟩,hV]
  rw[hd];unfold vN yJ;rw[Lib.takeD s hl];generalize hX:64*(64*(64*(((s.getD 0 0).toNat:Int)-240)+(s.getD 1 0).toNat-128)+(s.getD 2 0).toNat-128)+(s.getD 3 0).toNat-128=X;have hXV:X=(V:Int):=by omega
  by_cases hv:V≥65536∧(V<55296∨(57344≤V∧V≤1114111))
  · rw[aU8 hv,aU8 ⟨(IK _).2 (by unfold BH;omega),by
      rw[aHG pJ pJ,IL _ _ (s.getD 0 0) pJ,IL _ _ (s.getD 1 0) pJ,IL _ _ (s.getD 2 0) pJ,IL _ _ (s.getD 3 0) pJ,a9o]⟩]
    exact Prod.ext hXV rfl
  · rw[aVa hv,aVa (fun h=>by
      have hs:=(IK _).1 h.1;unfold BH at hs;have hlt:X<65536:=by omega
      have h2:=aVL List.length h.2;by_cases h7:X≤127
      .rw[XU pJ h7,PC] at h2;simp at h2
      · by_cases h8:X≤2047
        .rw[XV pJ pJ,PC] at h2;simp at h2
        .rw[a9i pJ,PC] at h2;simp at h2)]
    rfl
def MA {s:pG}(h: ¬(s.getD 0 0).toNat<128) (h2: ¬((s.getD 0 0).toNat/32=6∧1<s.length∧uN s 1=true)) (h3: ¬((s.getD 0 0).toNat/16=14∧2<s.length∧(uN s 1&&uN s 2)=true))
    (h4: ¬((s.getD 0 0).toNat/8=30∧3<s.length∧(uN s 1&&uN s 2&&uN s 3)=true)):Lib.decodeL s=(65533,1):=by
  unfold uN at h2 h3 h4;simp only[aVg,aVf] at h2 h3 h4;rw[Lib.decodeL_N];unfold Lib.decodeN;rw[aVa h,aVa (fun⟨a,b,c⟩=>h2 ⟨a,b,c⟩),aVa (fun⟨a,⟨b,c⟩,d,e⟩=>h3 ⟨a,d,c,e⟩),aVa (fun⟨a,⟨b,c⟩,⟨d,e⟩,f,g⟩=>h4 ⟨a,f,⟨c,e⟩,g⟩)]
def aO8 {s:pG}(hne:s≠[]):JM s=some (((Lib.decodeL s).1:Int),((Lib.decodeL s).2:Int)):=by
  have hl:0<s.length:=aWB.2 hne;have hy:r7 s 0=((s.getD 0 0).toNat:Int):=aHJ (i:=0) hl;have k0:=(s.getD 0 0).toNat_lt;have hw:IntKind.i64.wrap ((s.getD 0 0).toNat:Int)=((s.getD 0 0).toNat:Int):=by rw[aWc];omega
  unfold JM;rw[aU8 ⟨aVW _,pJ⟩,hy,hw];by_cases c1:(s.getD 0 0).toNat<128
  · rw[aU8 (by simp only[aVf];omega)]
    rw[Lib.decodeL_N];unfold Lib.decodeN;rw[aU8 c1];rfl
  · rw[aVa (by simp only[aVf];omega)]
    by_cases c2:192≤(s.getD 0 0).toNat∧(s.getD 0 0).toNat<224
    · rw[aU8 (by simp only[aVg,aVf];omega),aU8 (by unfold qJ;omega)]
      show (if decide ((s.length:Int)<2)=true then _ else _)=_;by_cases l2:1<s.length
      · rw[aVa (by simp only[aVf];omega),aO2 l2 pJ pJ]
        by_cases hc:uN s 1=true
        · rw[aU8 hc,←aO5 l2 c2.1 c2.2 hc,←a9n (s:=s) (n:=2) pJ]
          rfl
        · rw[aVa hc,MA c1 (fun h=>hc h.2.2) (fun h=>by omega) (fun h=>by omega)]
          rfl
      · rw[aU8 (by simp only[aVf];omega),MA c1 (fun h=>l2 h.2.1) (fun h=>by omega) (fun h=>by omega)]
        rfl
    · rw[aVa (by simp only[aVg,aVf];omega)]
      by_cases c3:224≤(s.getD 0 0).toNat∧(s.getD 0 0).toNat<240
      · rw[aU8 (by simp only[aVg,aVf];omega),aU8 (by unfold qJ;omega)]
        show (if decide ((s.length:Int)<3)=true then _ else _)=_;by_cases l2:2<s.length
        · rw[aVa (by simp only[aVf];omega),aO3 l2 pJ pJ]
          by_cases hc:(uN s 1&&uN s 2)=true
          · have hc':=aVg _ _▸hc
            rw[aU8 hc,←aO6 l2 c3.1 c3.2 hc'.1 hc'.2,←a9n (s:=s) (n:=3) pJ];rfl
          · rw[aVa hc,MA c1 (fun h=>by omega) (fun h=>hc h.2.2) (fun h=>by omega)]
            rfl
        · rw[aU8 (by simp only[aVf];omega),MA c1 (fun h=>by omega) (fun h=>l2 h.2.1) (fun h=>by omega)]
          rfl
      · rw[aVa (by simp only[aVg,aVf];omega)]
        by_cases c4:240≤(s.getD 0 0).toNat∧(s.getD 0 0).toNat<248
        · rw[aU8 (by simp only[aVg,aVf];omega),aU8 (by unfold qJ;omega)]
          show (if decide ((s.length:Int)<4)=true then _ else _)=_;by_cases l2:3<s.length
          · rw[aVa (by simp only[aVf];omega),aO4 l2 pJ pJ]
            by_cases hc:(uN s 1&&uN s 2&&uN s 3)=true
            · have hc':=aVg _ _▸hc
              have hc'':=aVg _ _▸hc'.1;rw[aU8 hc,←aO7 l2 c4.1 c4.2 hc''.1 hc''.2 hc'.2,←a9n (s:=s) (n:=4) pJ];rfl
            · rw[aVa hc,MA c1 (fun h=>by omega) (fun h=>by omega) (fun h=>hc h.2.2)]
              rfl
          · rw[aU8 (by simp only[aVf];omega),MA c1 (fun h=>by omega) (fun h=>by omega) (fun h=>l2 h.2.1)]
            rfl
        · rw[aVa (by simp only[aVg,aVf];omega),MA c1 (fun h=>by omega) (fun h=>by omega) (fun h=>by omega)]
          rfl
def zR:Nat->pG->pP
 |0,_=>[]
 |n+1,s=>if s=[] then[] else((Lib.decodeL s).1:Int)::zR n (s.drop (Lib.decodeL s).2)
def aHK: ∀(n:Nat) (s:pG),(zR n s).length<=n
 |0,_=>aVp _
 |n+1,s=>by
  unfold zR;split
  .simp
  .simp only[aVd];have:=aHK n (s.drop (Lib.decodeL s).2);omega
def aO9 (s:pG):BH ((Lib.decodeL s).1:Int):=by
 have k0:=(s.getD 0 0).toNat_lt;rw[Lib.decodeL_N];rcases Lib.decodeN_shape s.length (s.getD 0 0).toNat (s.getD 1 0).toNat (s.getD 2 0).toNat (s.getD 3 0).toNat with⟨c,e⟩ |⟨c1,c2,c3,cv,e⟩ |⟨c1,c2,c3,c4,cv,cs,e⟩ |⟨c1,c2,c3,c4,c5,cv,cw,e⟩ |e
 all_goals (rw[e];unfold BH;dsimp only;omega)
def aHL: ∀(n:Nat) (s:pG) (out:pP),s.length<=n->out.length+s.length<=4000000000->rE OM (s,out)=some (out++zR n s)
 |n,[],out,_,_=>by
  rw[wW (r:=out) (by unfold OM;simp)];cases n<;>simp [zR]
 |0,b::t,_,h,_=>by simp at h
 |n+1,b::t,out,h,ho=>by
  have hne:(b::t)≠[]:=by simp
  have hle:=Lib.decodeL_le (b::t) hne;have hw:=Lib.decodeL_width (b::t);have hstep:OM (b::t,out)=some (.inl ((b::t).drop (Lib.decodeL (b::t)).2,out++[((Lib.decodeL (b::t)).1:Int)])):=by
   unfold OM;dsimp only;rw[aU8 pL,aO8 hne];simp only[aU7];rw[aU8 (by simp only[aVd,aVv] at ho|-;omega),aU8 ⟨pJ,pJ,aVW _⟩,GT]
  rw[HR hstep,aHL n _ _ (by rw[aVh];simp only[aVd] at h hle|-;omega) (by rw[aVh,aVc];simp only[aVd,aVv] at ho hle|-;omega)];rw[show zR (n+1) (b::t)=((Lib.decodeL (b::t)).1:Int)::zR n ((b::t).drop (Lib.decodeL (b::t)).2) by rw[zR,aVa hne],aVi];rfl
def XW (s:pG):pP:=zR s.length s
def aPa (s:pG) (hs:r8 s):JQ s=some (XW s):=by
 unfold r8 at hs;unfold JQ;rw[aHL s.length s [] (aVp _) (by simpa using hs)];rfl
def aHM: ∀(n:Nat) (s:pG),∀x∈zR n s,BH x
 |0,_,_,h=>by cases h
 |n+1,s,x,h=>by
  unfold zR at h;split at h
  .cases h
  .rcases aVs.1 h with h|h
   .rw[h];exact aO9 s
   .exact aHM n _ x h
def K7 (l:pP):pG:=(l.map Lib.encodeRune).flatten
def a9p (n:Int):(Lib.encodeRune n).length<=4:=by
 unfold Lib.encodeRune;rw[aWF];exact aHH n
def aHN (l:pP) (hsc: ∀x∈l,BH x) (hl:r8 l): ∀(n j:Nat) (s:pG),j+n=l.length->s.length+4*n<=10000000000000->rE (OL l) (s,(j:Int))=some (s++K7 (l.drop j))
 |0,j,s,hj,_=>by
  have:j=l.length:=by omega
  subst this;rw[wW (r:=s) (by unfold OL;simp),aVR];simp [K7]
 |n+1,j,s,hj,hs=>by
  have hlt:j<l.length:=by omega
  unfold r8 at hl;have hx:=hsc l[j] (aV9 hlt);have h4:=a9p l[j];have hstep:OL l (s,(j:Int))=some (.inl (s++Lib.encodeRune l[j],((j+1:Nat):Int))):=by
   unfold OL;dsimp only;rw[aU8 (uI hlt),aU8 (sN hlt),z6 (t:= .int .i64) hlt];have hb:=(IK l[j]).2 hx;unfold xJ at hb;rw[aU8 hb,aU8 (sN hlt),a9j hx];simp only[aU7];rw[aU8 (by rw[aVc];omega),aU8 (tN pJ)];rfl
  rw[HR hstep,aHN l hsc hl n (j+1) _ pJ (by rw[aVc];omega),aVA hlt,aVi];rfl
def aPb (l:pP) (hsc: ∀x∈l,BH x) (hl:r8 l):LZ l=some (K7 l):=by
 have hl':=hl;unfold r8 at hl';unfold LZ;rw[show ((0:Int))=((0:Nat):Int) from rfl,aHN l hsc hl l.length 0 [] pJ pM];rfl
def aHO: ∀(n:Nat) (s:pG),s.length<=n->s.length<=(K7 (zR n s)).length/\(K7 (zR n s)=s↔Lib.validD s=true)
 |n,[],_=>by
  have:zR n []=[]:=by cases n<;>simp [zR]
  rw[this];simp [K7,Lib.validD_nil]
 |0,b::t,h=>by simp at h
 |n+1,b::t,h=>by
  have hne:(b::t)≠[]:=by simp
  have hle:=Lib.decodeL_le (b::t) hne;have hw:=Lib.decodeL_width (b::t);obtain⟨ih1,ih2⟩:=aHO n ((b::t).drop (Lib.decodeL (b::t)).2) (by rw[aVh];simp only[aVd] at h|-;omega);have hr:K7 (zR (n+1) (b::t))=Lib.encodeRune ((Lib.decodeL (b::t)).1:Int)++K7 (zR n ((b::t).drop (Lib.decodeL (b::t)).2)):=by
   rw[zR,aVa hne];rfl
  rw[hr,Lib.validD_step _ hne];rw[aVh] at ih1;by_cases hv:(Lib.decodeL (b::t)).1=65533/\(Lib.decodeL (b::t)).2=1
  .rw[aU8 hv,hv.1];have e3:(Lib.encodeRune ((65533:Nat):Int)).length=3:=rfl;rw[hv.2] at ih1|-;refine⟨by rw[aVc,e3];omega,fun he=> ?_,fun he=>by cases he⟩;have:=aVL List.length he;rw[aVc,e3] at this;omega
  .have he:=Lib.encode_decode (b::t) hne hv;rw[aVa hv,he];refine⟨by rw[aVc,aVx];omega,?_⟩;rw[<-ih2];constructor
   .intro h1;exact List.append_cancel_left (h1.trans (aWn _ _).symm)
   .intro h1;rw[h1,aWn]
def aPc (s:pG) (hs:r8 s):uZ s=some (Lib.validD s):=by
 have hl:r8 (XW s):=by
  have:=aHK s.length s;unfold r8 XW at*;omega
 unfold uZ;rw[aPa s hs];simp only[aU7];rw[aPb (XW s) (fun x hx=>aHM _ _ x hx) hl];simp only[aU7];congr 1;have:=(aHO s.length s (aVp _)).2;rw[aWk,aVf];exact this
def tG (s:pG):Bool:=decide ((s.length:Int)<=4000)&&Lib.validD s
def PD (s:pG) (hs:r8 s):FM s=some ()/\((decide ((s.length:Int)<=4000))&&val (uZ s))=tG s:=by
 unfold FM;rw[aPc s hs];exact⟨aU8 (fun _=>rfl),rfl⟩
def PE (s:pG) (hs:r8 s):FH s=some ():=by
 unfold r8 at hs;unfold FH RQ;rw[aU8 (fun _=>by rw[aU8 pJ];rfl)]
def xK {p:Prop}{α:Type}{v:α}:p->(some v).isSome=true:=fun _=>rfl
def XX {ρ:Type}{f:Int->Option (Int⊕(Unit⊕ρ))}{n:Nat}(p:Nat->Bool) (g:Nat->ρ)
  (hf: ∀(i:Nat),i<n->f i=if p i=true then some (.inr (.inr (g i))) else some (.inl (i+1)))
  (he:f n=some (.inr (.inl ()))):rE f 0=some (vG (fun k=> .inr (g k)) (.inl ()) ((List.range n).findIdx? p)):=by
 refine CN (l:=List.range n) p g (fun i h=> ?_) (by rw[List.length_range];exact he);have hi:i<n:=by rw[List.length_range] at h;exact h
 rw[List.getElem_range];exact hf i hi
def a9q (a b:pG):(!Op.bytesLess a b)=(Op.bytesLess b a||decide (b=a)):=by
 rw[bytesLess_eq,bytesLess_eq,aWk];simp only[aVG,aVO,aVZ,aVf];constructor
 .intro h;exact(List.le_iff_lt_or_eq.1 (List.not_lt.1 h))
 .rintro(h|h)
  .exact List.lt_asymm h
  .rw[h];exact List.lt_irrefl _
def XY {n:Nat}{p:Nat->Bool}{b:Bool}:sZ (some (vG (fun _=>Sum.inr false) (Sum.inl ()) ((List.range n).findIdx? p))) (fun _:Unit=>some b)=some (!((List.range n).any p)&&b):=by
 rw[K6];cases(List.range n).any p<;>rfl
def xL (l:pH):Bool:=decide ((l.length:Int)<=20)&& !(l.any fun x=> !tG x)
def aPd {α:Type}{l:List α}{p:α->Bool}{b:Bool}:sZ (some (vG (fun _=>Sum.inr false) (Sum.inl ()) (l.findIdx? p))) (fun _:Unit=>some b)=some (!(l.any p)&&b):=by
 rw[K6];cases l.any p<;>rfl
def aPe (l:pH) (hl:r8 l) (hx: ∀x∈l,r8 x):EH l=some (xL l):=by
 unfold r8 at hl;have h:=CN (f:=SE l) (l:=l) (fun x=> !tG x) (fun _=>false) (fun i h=>by
  obtain⟨h1,h2⟩:=PD l[i] (hx _ (aV9 h));unfold SE;rw[aU8 (uI h),aU8 (sN h),z6 (t:= .str) h,h1,aU7,h2,aU8 (tN pJ)]) (by
  unfold SE;rw[aVa (vZ _)])
 unfold EH;rw[h,aPd,xL,Bool.and_comm]
def aPf (l:pH) (hl:r8 l) (hx: ∀x∈l,r8 x):CR l=some (l.any fun x=> !tG x):=by
 unfold r8 at hl;have h:=CN (f:=SB l) (l:=l) (fun x=> !tG x) (fun k=>(k:Int)) (fun i h=>by
  have h1:=PE l[i] (hx _ (aV9 h));unfold SB S7;rw[aU8 (uI h),aU8 (sN h),z6 (t:= .str) h,h1,aU7,aU7,aU8 (tN pJ)];rfl) (by
  unfold SB;rw[aVa (vZ _)])
 unfold CR OR;rw[h,GS];show some (decide _)=_;rw[aHx]
def aHP (l:pH) (hl:r8 l) (hx: ∀x∈l,r8 x):M2 l=some ()/\((decide ((l.length:Int)<=20))&&(!(val (CR l))))=xL l:=by
 unfold M2;rw[aPf l hl hx];exact⟨aU8 xK,rfl⟩
def ST (l:pH) (i:Nat):Bool:=(!sS (l.getD i []))||(decide (0<i)&& !Op.bytesLess (l.getD (i-1) []) (l.getD i []))
def DL (l:pH):Bool:= !((List.range l.length).any (ST l))&&decide ((l.length:Int)<=20)
def XZ {l:pH}{i:Nat}:rC .str l (i:Int)=l.getD i []:=by unfold rC;rw[aVN];rfl
def aHQ {l:pH}{i:Nat}:rC .str l ((i:Int)-1)=l.getD (i-1) []:=by
 unfold rC;rw[show ((i:Int)-1).toNat=i-1 by omega];rfl
def Y0 {i:Nat}:decide ((0:Int)<(i:Int))=decide (0<i):=by simp
def aPg (l:pH) (hl:r8 l):HZ l=some (DL l):=by
 unfold r8 at hl;have h:=XX (f:=RN l) (n:=l.length) (ST l) (fun _=>false) (fun i h=>by
  unfold RN;rw[aU8 (uI h),aU8 (sN h),XZ,aHQ,XQ,aU7,Y0];have h0: ∀q:Bool,((q==false)&&(decide (0<i)==true))=true->0<i:=fun q hq=>by
   simp only[aVg,aXo,aVf] at hq;exact hq.2
  rw[aU8 (fun hq=>by have:=h0 _ hq;unfold qJ;omega),aU8 (fun hq=>by have:=h0 _ hq;omega),aU8 (tN pJ)];rfl) (by
  unfold RN;rw[aVa (vZ _)])
 unfold HZ;rw[h,XY];rfl
def aPh (l:pH) (hl:r8 l) (hx: ∀x∈l,r8 x):FL l=some (DL l):=by
 unfold r8 at hl;have h:=XX (f:=S4 l) (n:=l.length) (ST l) (fun _=>false) (fun i h=>by
  unfold S4;have hf:r8 (l.getD i []):=by rw[aVy,aVj h];exact hx _ (aV9 h)
  rw[aU8 (uI h),aU8 (sN h),XZ,aHQ,XP _ hf,aU7,Y0];have h0: ∀q:Bool,((q==false)&&(decide (0<i)==true))=true->0<i:=fun q hq=>by
   simp only[aVg,aXo,aVf] at hq;exact hq.2
  rw[aU8 (fun _=>sN h),aU8 (fun hq=>by have:=h0 _ hq;unfold qJ;omega),aU8 (fun hq=>by have:=h0 _ hq;omega),aU8 (tN pJ),<-a9q];rfl) (by
  unfold S4;rw[aVa (vZ _)])
 unfold FL;rw[h,XY];rfl
abbrev fD:s7:=([],([],()))
def SU (l:List s7) (i:Nat):Bool:=((!sS (l.getD i fD).1)||(!tG (l.getD i fD).2.1))||(decide (0<i)&& !Op.bytesLess (l.getD (i-1) fD).1 (l.getD i fD).1)
def xM (l:List s7):Bool:= !((List.range l.length).any (SU l))&&decide ((l.length:Int)<=20)
def a9r {l:List s7}{i:Nat}:rC (.pair .str (.pair .str .unit)) l (i:Int)=l.getD i fD:=by unfold rC;rw[aVN];rfl
def aHR {l:List s7}{i:Nat}:rC (.pair .str (.pair .str .unit)) l ((i:Int)-1)=l.getD (i-1) fD:=by
 unfold rC;rw[show ((i:Int)-1).toNat=i-1 by omega];rfl
def SV (x:s7):Prop:=r8 x.1/\r8 x.2.1
def PF {α:Type}{l:List α}{i:Nat}{d:α}(h:i<l.length):l.getD i d∈l:=by
 rw[aVy,aVj h];exact aV9 h
def Y1 {i:Nat}{q:Bool}(hq:((q==false)&&(decide (0<i)==true))=true):0<i:=by
 simp only[aVg,aXo,aVf] at hq;exact hq.2
def aHS (l:List s7) (hl:r8 l) (hx: ∀x∈l,SV x):GO l=some (xM l):=by
 unfold r8 at hl;have h:=XX (f:=S5 l) (n:=l.length) (SU l) (fun _=>false) (fun i h=>by
  unfold S5;have hf:=hx _ (PF (d:=fD) h);rw[aU8 (uI h),aU8 (sN h),a9r,aHR,XQ,aU7,Y0,PE _ hf.2];rw[aU8 xK,aU8 (fun hq=>by have:=Y1 hq;unfold qJ;omega),aU8 (fun hq=>by have:=Y1 hq;omega),aU8 (tN pJ)];rfl) (by
  unfold S5;rw[aVa (vZ _)])
 unfold GO;rw[h,XY];rfl
def aPi (l:List s7) (hl:r8 l) (hx: ∀x∈l,SV x):GQ l=some (xM l):=by
 unfold r8 at hl;have h:=XX (f:=SF l) (n:=l.length) (SU l) (fun _=>false) (fun i h=>by
  unfold SF;have hf:=hx _ (PF (d:=fD) h);obtain⟨h1,h2⟩:=PD _ hf.2;rw[aU8 (uI h),aU8 (sN h),a9r,aHR,XP _ hf.1,aU7,Y0,h1,h2];rw[aU8 (fun _=>sN h),aU8 xK,aU8 (fun _=>sN h),aU8 (fun hq=>by have:=Y1 hq;unfold qJ;omega),aU8 (fun hq=>by have:=Y1 hq;omega),aU8 (tN pJ),<-a9q];rfl) (by
  unfold SF;rw[aVa (vZ _)])
 unfold GQ;rw[h,XY];rfl
abbrev t6:=rZ
structure Y2 (x:t6):Prop where
 id:r8 x.1
 src:r8 x.2.1
 tgt:r8 x.2.2.1
 com:r8 x.2.2.2.1/\∀y∈x.2.2.2.1,r8 y
 flg:r8 x.2.2.2.2.1/\∀y∈x.2.2.2.2.1,r8 y
 fld:r8 x.2.2.2.2.2.2.1/\∀y∈x.2.2.2.2.2.2.1,SV y
def wZ (x:t6):Bool:=
 (((((((!decide (x.1=[]))&&decide ((x.1.length:Int)<=200))&&tG x.1)&&tG x.2.1)&&tG x.2.2.1)&&xL x.2.2.2.1)&&DL x.2.2.2.2.1)&&(decide (0<=x.2.2.2.2.2.1)&&decide (x.2.2.2.2.2.1<=4))&&xM x.2.2.2.2.2.2.1
def aPj (x:t6) (h:Y2 x):K3 x=some (wZ x):=by
 obtain⟨t1,t2⟩:=aHP _ h.com.1 h.com.2;have e1:=aPg _ h.flg.1;have e2:=aHS _ h.fld.1 h.fld.2;unfold K3;rw[PE _ h.id,PE _ h.src,PE _ h.tgt,t1,t2,e1,e2];have k: ∀s:pG,(decide ((s.length:Int)<=4000)&&Lib.validD s)=tG s:=fun s=>rfl;rw[aU8 xK,aU7,aU8 xK,aU8 xK,aU8 xK,aU8 xK,k,k,k];unfold wZ;show (if _ then some false else some _)=_;have a1:decide ((200:Int)<(x.1.length:Int))= !decide ((x.1.length:Int)<=200):=by rw[<-decide_not];exact aW8.2 pJ
 have a2:decide (x.2.2.2.2.2.1<(0:Int))= !decide ((0:Int)<=x.2.2.2.2.2.1):=by rw[<-decide_not];exact aW8.2 pJ
 have a3:decide ((4:Int)<x.2.2.2.2.2.1)= !decide (x.2.2.2.2.2.1<=(4:Int)):=by rw[<-decide_not];exact aW8.2 pJ
 rw[a1,a2,a3];show (if _ then some false else some (((((tG x.2.1&&tG x.2.2.1)&&xL x.2.2.2.1)&&DL x.2.2.2.2.1))&&xM x.2.2.2.2.2.2.1))=_;generalize decide (x.1=[])=b1;generalize decide ((x.1.length:Int)<=200)=b2;generalize tG x.1=b3;generalize tG x.2.1=b4;generalize tG x.2.2.1=b5;generalize xL x.2.2.2.1=b6;generalize DL x.2.2.2.2.1=b7;generalize decide ((0:Int)<=x.2.2.2.2.2.1)=b8;generalize decide (x.2.2.2.2.2.1<=(4:Int))=b9;generalize xM x.2.2.2.2.2.2.1=b10;cases b1<;>cases b2<;>cases b3<;>cases b8<;>cases b9<;>simp
def aPk (x:t6) (h:Y2 x):OU x=some ()/\((((((((((!decide (x.1=([]:pG)))&&(decide ((x.1.length:Int)<=(200:Int))))&&((decide ((x.1.length:Int)<=(4000:Int)))&&(val (uZ x.1))))&&((decide ((x.2.1.length:Int)<=(4000:Int)))&&(val (uZ x.2.1))))&&((decide ((x.2.2.1.length:Int)<=(4000:Int)))&&(val (uZ x.2.2.1))))&&(val (EH x.2.2.2.1)))&&(val (FL x.2.2.2.2.1)))&&(decide ((0:Int)<=x.2.2.2.2.2.1)))&&(decide (x.2.2.2.2.2.1<=(4:Int))))&&(val (GQ x.2.2.2.2.2.2.1)))=wZ x:=by
 obtain⟨u1,v1⟩:=PD _ h.id;obtain⟨u2,v2⟩:=PD _ h.src;obtain⟨u3,v3⟩:=PD _ h.tgt;have e0:=aPe _ h.com.1 h.com.2;have e1:=aPh _ h.flg.1 h.flg.2;have e2:=aPi _ h.fld.1 h.fld.2;unfold OU;rw[u1,u2,u3,v1,v2,v3,e0,e1,e2];refine⟨?_,?_⟩
 .rw[aU8 xK,aU8 xK,aU8 xK,aU8 xK,aU8 xK,aU8 xK]
 .unfold wZ;show (((((((((!_&&_)&&_)&&_)&&_)&&xL x.2.2.2.1)&&DL x.2.2.2.2.1)&&_)&&_)&&xM x.2.2.2.2.2.2.1)=_;simp only[Bool.and_assoc]
def sib (l:pG) (b:UInt8):uY l (b.toNat:Int)=Lib.indexByte l b:=by
 unfold uY;rw[aVN];congr 1;simp
def sU (d:UInt8):pG->pS
 |[]=>none
 |[b]=>if b=d then some 0 else none
 |b::c::t=>if b=d then some 0 else if b=92 then(sU d t).map (· +2) else(sU d (c::t)).map (· +1)
def FS:pS->Int
 |some k=>k
 |none=> -1
def PG {d:UInt8}:sU d []=none:=by unfold sU;rfl
def MB {d b:UInt8}{t:pG}(h:b=d):sU d (b::t)=some 0:=by
 subst h;cases t<;>(unfold sU;simp)
def MC {d b:UInt8}{t:pG}(h:b≠d) (hb:b=92):sU d (b::t)=(sU d (t.drop 1)).map (· +2):=by
 cases t with
 |nil=>unfold sU;rw[aVa h];simp [sU]
 |cons c t=>rw[sU,aVa h,aU8 hb];rfl
def MD {d b:UInt8}{t:pG}(h:b≠d) (hb:b≠92):sU d (b::t)=(sU d t).map (· +1):=by
 cases t with
 |nil=>unfold sU;rw[aVa h];simp [sU]
 |cons c t=>rw[sU,aVa h,aVa hb]
def PH {d:UInt8}: ∀(n:Nat) (l:pG) (k:Nat),l.length<=n->sU d l=some k->k<l.length
 |_,[],_,_,h=>by rw[PG] at h;cases h
 |0,_::_,_,hn,_=>by simp at hn
 |n+1,b::t,k,hn,h=>by
  simp only[aVd] at hn|-;by_cases h1:b=d
  .rw[MB h1] at h;cases h;omega
  .by_cases h2:b=92
   .rw[MC h1 h2] at h;cases h3:sU d (t.drop 1) with
    |none=>rw[h3] at h;cases h
    |some j=>
     rw[h3] at h;obtain rfl:j+2=k:=aVe h;have:=PH n (t.drop 1) j (by rw[aVh];omega) h3;rw[aVh] at this;omega
   .rw[MD h1 h2] at h;cases h3:sU d t with
    |none=>rw[h3] at h;cases h
    |some j=>
     rw[h3] at h;obtain rfl:j+1=k:=aVe h;have:=PH n t j pJ h3;omega
def Y3 {a b:UInt8}:((a.toNat:Int)=(b.toNat:Int))↔a=b:=by
 rw[Int.ofNat_inj];exact UInt8.toNat_inj
def a9t (n:Int) (hn:n≠4) (s:pG) (d:UInt8) (hs:r8 s): ∀(k i:Nat),s.length+1<=i+k->rE (OD n s (d.toNat:Int)) (i:Int)=some (vG (fun k=> .inr ((i+k:Nat):Int)) (.inl ()) (sU d (s.drop i)))
 |0,i,h=>by
  rw[List.drop_eq_nil_of_le pJ,PG,wW (r:= .inl ()) (by unfold OD;rw[aVa pM])];rfl
 |k+1,i,h=>by
  by_cases hlt:i<s.length
  .have hs':=hs;unfold r8 at hs';have hstep:OD n s (d.toNat:Int) (i:Int)=if s[i]=d then some (.inr (.inr (i:Int))) else if s[i]=92 then some (.inl ((i+2:Nat):Int)) else some (.inl ((i+1:Nat):Int)):=by
    unfold OD;rw[aU8 (uI hlt),aU8 (sN hlt),zL hlt];by_cases h1:s[i]=d
    .rw[aU8 (by simp [h1]),aU8 h1]
    .rw[aVa (by simpa[Y3] using h1),aVa h1,aU8 (fun _=>sN hlt)];have h92:((92:Int))=((92:UInt8).toNat:Int):=rfl;by_cases h2:s[i]=92
     .rw[aU8 (by rw[h2];simp [hn]),aU8 h2,aU8 (tN pJ),aU8 (by unfold qJ;omega)];congr 3
     .rw[aVa (fun h=>by
       simp only[aVg,aVf] at h;exact h2 (Y3.1 (h.2.trans h92))),aVa h2,aU8 (tN pJ)]
      rfl
   rw[yZ,hstep,aVA hlt];by_cases h1:s[i]=d
   .rw[aU8 h1,MB h1];rfl
   .rw[aVa h1];by_cases h2:s[i]=92
    .rw[aU8 h2,MC h1 h2];show rE _ ((i+2:Nat):Int)=_;rw[a9t n hn s d hs k (i+2) pJ,aVQ];cases sU d (s.drop (i+2)) with
     |none=>rfl
     |some j=>
      show some (Sum.inr ((i+2+j:Nat):Int))=some (Sum.inr ((i+(j+2):Nat):Int));rw[show i+2+j=i+(j+2) by omega]
    .rw[aVa h2,MD h1 h2];show rE _ ((i+1:Nat):Int)=_;rw[a9t n hn s d hs k (i+1) pJ];cases sU d (s.drop (i+1)) with
     |none=>rfl
     |some j=>
      show some (Sum.inr ((i+1+j:Nat):Int))=some (Sum.inr ((i+(j+1):Nat):Int));rw[show i+1+j=i+(j+1) by omega]
  .rw[List.drop_eq_nil_of_le pJ,PG,wW (r:= .inl ()) (by unfold OD;rw[aVa pM])];rfl
def aHT {n:Int}(h1:1<=n) (h3:n<=3) (s:pG) (d:UInt8) (hs:r8 s):OE n s (d.toNat:Int)=some (FS (sU d s)):=by
 unfold OE;have h:=a9t n pJ s d hs (s.length+1) 0 pJ;rw[aVa pM,show ((0:Int))=((0:Nat):Int) from rfl,h,aWf];cases sU d s with
 |none=>rfl
 |some k=>
  show some (((0+k:Nat)):Int)=some (k:Int);rw[aVF]
def aPl (n:Int) (s:pG) (c:Int):LY n s c=OE n s c:=by
 unfold LY OE;rfl
def BY (c base:Int):Int:=
 let n:=if 48<=c/\c<=57 then c-48 else if 97<=c/\c<=102 then c-87 else if 65<=c/\c<=70 then c-55 else-1
 if base<=n then-1 else n
def aPm {c:Int}(base:Int) (h0:0<=c) (h1:c<=255):X2 c base=some (BY c base):=by
 unfold X2 BY;by_cases a:48<=c/\c<=57
 .rw[aU8 (by simpa using a),aU8 a,show IntKind.i64.wrap (IntKind.u8.wrap (c-48))=c-48 by rw[aWv,aWc];omega];simp only[sB,aU7,aVf];split<;>rfl
 .rw[aVa (by simpa using a),aVa a];by_cases b:97<=c/\c<=102
  .rw[aU8 (by simpa using b),aU8 b,show IntKind.i64.wrap (IntKind.u8.wrap (c-97))=c-97 by rw[aWv,aWc];omega,aU8 (by unfold qJ;omega),show c-97+10=c-87 by omega];simp only[sB,aU7,aVf];split<;>rfl
  .rw[aVa (by simpa using b),aVa b];by_cases d:65<=c/\c<=70
   .rw[aU8 (by simpa using d),aU8 d,show IntKind.i64.wrap (IntKind.u8.wrap (c-65))=c-65 by rw[aWv,aWc];omega,aU8 (by unfold qJ;omega),show c-65+10=c-55 by omega];simp only[sB,aU7,aVf];split<;>rfl
   .rw[aVa (by simpa using d),aVa d];simp only[sB,aU7,aVf];split<;>rfl
def Y4:pG:=[48,49,50,51,52,53,54,55,56,57,97,98,99,100,101,102]
def aPn: ∀n:Fin 256,Lib.indexByte Y4 (UInt8.ofNat n)=if 48<=(n.val:Int)/\(n.val:Int)<=57 then(n.val:Int)-48 else if 97<=(n.val:Int)/\(n.val:Int)<=102 then(n.val:Int)-87 else-1:=by decide
def aPo (b:UInt8):Lib.indexByte Y4 b=if 48<=(b.toNat:Int)/\(b.toNat:Int)<=57 then(b.toNat:Int)-48 else if 97<=(b.toNat:Int)/\(b.toNat:Int)<=102 then(b.toNat:Int)-87 else-1:=by
 have:=aPn ⟨b.toNat,b.toNat_lt⟩;simpa using this
def zS (base:Int):Int->pG->Option Int
 |acc,[]=>some acc
 |acc,b::t=>if BY b.toNat base<0 then none else zS base (base*acc+BY b.toNat base) t
def aHU {c base:Int}(hb:0<base): -1<=BY c base/\BY c base<base:=by
 unfold BY;dsimp only
 repeat' split
 all_goals omega
def aHV (s:pG) (base:Int) (hb:0<base) (hb16:base<=16) (hs:s.length<=8): ∀(k j:Nat) (acc:Int),j+k=s.length->0<=acc->acc<16^j->
  rE (S2 s base) (acc,(j:Int))=some (match zS base acc (s.drop j) with|some n=> .inl n|none=> .inr (-1))
 |0,j,acc,hj,_,_=>by
  have:j=s.length:=by omega
  subst this;rw[aVR,wW (r:= .inl acc) (by unfold S2;simp)];rfl
 |k+1,j,acc,hj,h0,h1=>by
  have hlt:j<s.length:=by omega
  have hc:=s[j].toNat_lt;have hd:=aHU (c:=(s[j].toNat:Int)) hb;have hp:(16:Int) ^j<=16^8:=by
   have:(16:Nat) ^j<=16^8:=Nat.pow_le_pow_right pK pJ
   exact_mod_cast this
  have h8:(16:Int) ^8=4294967296:=by decide
  have hm:base*acc<=16*acc:=Int.mul_le_mul_of_nonneg_right hb16 h0;have hm0:0<=base*acc:=Int.mul_nonneg pJ h0;have hstep:S2 s base (acc,(j:Int))=if BY s[j].toNat base<0 then some (.inr (.inr (-1))) else some (.inl (base*acc+BY s[j].toNat base,((j+1:Nat):Int))):=by
   unfold S2;dsimp only;rw[aU8 (uI hlt),aU8 (sN hlt),zL hlt,aPm base pJ pJ];simp only[aU7,aVf];by_cases hn:BY s[j].toNat base<0
   .rw[aU8 hn,aU8 hn]
   .rw[aVa hn,aVa hn,aU8 (by unfold qJ;omega),aU8 (by unfold qJ;omega),aU8 (tN pJ)];rfl
  rw[yZ,hstep,aVA hlt,zS];by_cases hn:BY s[j].toNat base<0
  .rw[aU8 hn,aU8 hn];rfl
  .rw[aVa hn,aVa hn];show rE _ (_,((j+1:Nat):Int))=_;exact aHV s base hb hb16 hs k (j+1) _ pJ pJ (by rw[Int.pow_succ];omega)
def aHW (s:pG) (base:Int) (hb:0<base) (hb16:base<=16) (hs:s.length<=8):M0 s base=some (if s=[] then-1 else(zS base 0 s).getD (-1)):=by
 unfold M0;rw[show ((0:Int),(0:Int))=((0:Int),((0:Nat):Int)) from rfl,aHV s base hb hb16 hs s.length 0 0 pJ pJ pK,aWf];cases h:zS base 0 s with
 |none=>
  have:s≠[]:=by intro hn;subst hn;simp [zS] at h
  rw[aVa this];rfl
 |some n=>
  show (if decide (s=[])=true then _ else _)=_;by_cases he:s=[]
  .rw[aU8 (by simpa using he),aU8 he]
  .rw[aVa (by simpa using he),aVa he];rfl
def aHX (s:pG) (base:Int) (hb:0<base) (hb16:base<=16) (hs:s.length<=8): ∀(k j:Nat) (acc:Int),j+k=s.length->0<=acc->acc<16^j->
  rE (OF s base) (acc,(j:Int))=some (match zS base acc (s.drop j) with|some n=> .inl n|none=> .inr (0,false))
 |0,j,acc,hj,_,_=>by
  have:j=s.length:=by omega
  subst this;rw[aVR,wW (r:= .inl acc) (by unfold OF;simp)];rfl
 |k+1,j,acc,hj,h0,h1=>by
  have hlt:j<s.length:=by omega
  have hc:=s[j].toNat_lt;have hd:=aHU (c:=(s[j].toNat:Int)) hb;have hp:(16:Int) ^j<=16^8:=by
   have:(16:Nat) ^j<=16^8:=Nat.pow_le_pow_right pK pJ
   exact_mod_cast this
  have h8:(16:Int) ^8=4294967296:=by decide
  have hm:acc*base<=acc*16:=Int.mul_le_mul_of_nonneg_left hb16 h0;have hm0:0<=acc*base:=Int.mul_nonneg h0 pJ;have hcm:acc*base=base*acc:=Int.mul_comm _ _;have hstep:OF s base (acc,(j:Int))=if BY s[j].toNat base<0 then some (.inr (.inr (0,false))) else some (.inl (base*acc+BY s[j].toNat base,((j+1:Nat):Int))):=by
   unfold OF;dsimp only;rw[aU8 (uI hlt),aU8 (sN hlt),aU8 (sN hlt),aU8 (fun _=>sN hlt),zL hlt,aU8 (sN hlt),sib];have hidx:=aPo s[j];have hval:(if ((decide ((65:Int)<=(s[j].toNat:Int)))&&(decide ((s[j].toNat:Int)<=(70:Int))))=true then(if qJ ((IntKind.wrap .i64 (IntKind.wrap .u8 ((s[j].toNat:Int)- (65:Int))))+(10:Int)) then some (((IntKind.wrap .i64 (IntKind.wrap .u8 ((s[j].toNat:Int)- (65:Int))))+(10:Int))) else none) else some (Lib.indexByte Y4 s[j]))=some (if 48<=(s[j].toNat:Int)/\(s[j].toNat:Int)<=57 then(s[j].toNat:Int)-48 else if 97<=(s[j].toNat:Int)/\(s[j].toNat:Int)<=102 then(s[j].toNat:Int)-87 else if 65<=(s[j].toNat:Int)/\(s[j].toNat:Int)<=70 then(s[j].toNat:Int)-55 else-1):=by
    by_cases c:65<=(s[j].toNat:Int)/\(s[j].toNat:Int)<=70
    .rw[aU8 (by simpa using c),show IntKind.i64.wrap (IntKind.u8.wrap ((s[j].toNat:Int)-65))=(s[j].toNat:Int)-65 by rw[aWv,aWc];omega,aU8 (by unfold qJ;omega),aVa pJ,aVa pJ,aU8 c];congr 1;omega
    .rw[aVa (by simpa using c),hidx,aVa c]
   unfold sB;rw[show ([48,49,50,51,52,53,54,55,56,57,97,98,99,100,101,102]:pG)=Y4 from rfl,hval];simp only[aU7];unfold BY;dsimp only;generalize (if 48<=(s[j].toNat:Int)/\(s[j].toNat:Int)<=57 then(s[j].toNat:Int)-48 else if 97<=(s[j].toNat:Int)/\(s[j].toNat:Int)<=102 then(s[j].toNat:Int)-87 else if 65<=(s[j].toNat:Int)/\(s[j].toNat:Int)<=70 then(s[j].toNat:Int)-55 else-1)=D;by_cases hn:D<0\/base<=D
   .rw[aU8 (by simpa using hn)];by_cases hbD:base<=D
    .rw[aU8 hbD,aU8 pK]
    .rw[aVa hbD,aU8 pJ]
   .rw[aVa (by simpa using hn)];have hbD: ¬base<=D:=fun h=>hn (.inr h);have hD0: ¬D<0:=fun h=>hn (.inl h);rw[aVa hbD,aVa hD0,aU8 (by unfold qJ;omega),aU8 (by unfold qJ;omega),aU8 (tN pJ),hcm];rfl
  rw[yZ,hstep,aVA hlt,zS];by_cases hn:BY s[j].toNat base<0
  .rw[aU8 hn,aU8 hn];rfl
  .rw[aVa hn,aVa hn];show rE _ (_,((j+1:Nat):Int))=_;exact aHX s base hb hb16 hs k (j+1) _ pJ pJ (by rw[Int.pow_succ];omega)
def aHY (s:pG) (base:Int) (hb:0<base) (hb16:base<=16) (hs:s.length<=8):GL s base=some (match zS base 0 s with|some n=>(n,!decide (s=[])) |none=>(0,false)):=by
 unfold GL;rw[show ((0:Int),(0:Int))=((0:Int),((0:Nat):Int)) from rfl,aHX s base hb hb16 hs s.length 0 0 pJ pJ pK,aWf];cases h:zS base 0 s with
 |none=>rfl
 |some n=>rfl
def SW {base:Int}(hb:0<base): ∀{s:pG}{acc n:Int},0<=acc->zS base acc s=some n->0<=n
 |[],acc,n,h0,h=>by cases h;exact h0
 |b::t,acc,n,h0,h=>by
  rw[zS] at h;split at h
  .cases h
  .exact SW hb (by have:=Int.mul_nonneg (Int.le_of_lt hb) h0;omega) h
def aPp (b:UInt8) (l:pG) (hl:r8 l):FE (b.toNat:Int) l=some (l.contains b):=by
 unfold r8 at hl;have h:=CN (f:=WZ (b.toNat:Int) l) (l:=l) (fun x=>decide (x=b)) (fun _=>true) (fun i h=>by
  unfold WZ;rw[aU8 (uI h),aU8 (sN h),zL h,aU8 (tN pJ)];simp only[Y3,aVf]) (by
  unfold WZ;rw[aVa (vZ _)])
 unfold FE;rw[h,GS,a9g];congr 1;rw[aWk];simp
def ME:pG:=[92,34,61,58,35,33,123,125,32]
def GU (l:pG) (k:Nat) (ok:Int->Bool) (f:Int->pG):pG×Nat:=
 match zS 16 0 l with
 |some n=>if ok n=true then(f n,k) else([],0)
 |none=>([],0)
def yA (l:pG):pG×Nat:=
 match l with
 |_::c::t=>
  if c=110 then([10],2) else if c=114 then([13],2) else if c=116 then([9],2)
  else if ME.contains c=true then([c],2)
  else if c=120/\2<=t.length then GU (t.take 2) 4 (fun n=>decide (n<=127)) (fun n=>tE [n])
  else if c=117/\4<=t.length then GU (t.take 4) 6 xJ Lib.encodeRune
  else([],0)
 |_=>([],0)
def w4 {a:UInt8}{n:Int}(b:UInt8) (hb:n=(b.toNat:Int)):decide ((a.toNat:Int)=n)=decide (a=b):=by
 rw[hb];simp only[Y3]
def aHZ (a c:UInt8) (t:pG):qV (a::c::t) 2 4=t.take 2:=rfl
def aH0 (a c:UInt8) (t:pG):qV (a::c::t) 2 6=t.take 4:=rfl
def aH1 (a c:UInt8) (t:pG):qV (a::c::t) 1 2=[c]:=rfl
def aPq (a:UInt8) (t:pG):S8 (a::t)=some ((yA (a::t)).1,((yA (a::t)).2:Int)):=by
 cases t with
 |nil=>unfold S8;rw[aU8 pL];rfl
 |cons c t=>
  have hy:r7 (a::c::t) (1:Int)=(c.toNat:Int):=zL (i:=1) pL;unfold S8;rw[aVa pM,aU8 (⟨pK,by simp;omega⟩),hy,w4 (n:=110) 110 rfl,w4 (n:=114) 114 rfl,w4 (n:=116) 116 rfl,w4 (n:=120) 120 rfl,w4 (n:=117) 117 rfl,aPp c _ (by unfold r8;decide),aHZ,aH0,aH1];show _=some ((if c=110 then(([10],2):pG×Nat) else _).1,((if c=110 then(([10],2):pG×Nat) else _).2:Int));by_cases h1:c=110
  .rw[aU8 (by simpa using h1),aU8 h1];rfl
  rw[aVa (by simpa using h1),aVa h1];by_cases h2:c=114
  .rw[aU8 (by simpa using h2),aU8 h2];rfl
  rw[aVa (by simpa using h2),aVa h2];by_cases h3:c=116
  .rw[aU8 (by simpa using h3),aU8 h3];rfl
  rw[aVa (by simpa using h3),aVa h3,aU7];show (if ME.contains c=true then _ else _)=_;by_cases h4:ME.contains c=true
  .rw[aU8 h4,aU8 h4,aU8 ⟨pK,pK,by simp;omega⟩];rfl
  rw[aVa h4,aVa h4];have hlen:((a::c::t).length:Int)=(t.length:Int)+2:=by simp;omega
  rw[hlen];by_cases h5:c=120/\2<=t.length
  .rw[aU8 (by simp [h5.1];omega),aU8 h5,aU8 ⟨pK,pK,pJ⟩,aHW _ 16 pK pK (by rw[aVx];omega),aVa (by intro h;have:=aVL List.length h;rw[aVx,aVv] at this;omega),aU7];unfold GU;cases hn:zS 16 0 (t.take 2) with
   |none=>rfl
   |some n=>
    have h0:=SW pK (aVW 0) hn;simp only[aWz];by_cases h7:n<=127
    .rw[aU8 pM,aU8 (by simpa using h7),aWv,show n%256=n by omega];rfl
    .rw[aVa pM,aVa (by simpa using h7)];rfl
  rw[aVa (by simp only[aVg,aVf];intro h;exact h5 ⟨h.1,pJ⟩),aVa h5];by_cases h6:c=117/\4<=t.length
  .rw[aU8 (by simp [h6.1];omega),aU8 h6,aU8 ⟨pK,pK,pJ⟩,aHW _ 16 pK pK (by rw[aVx];omega),aVa (by intro h;have:=aVL List.length h;rw[aVx,aVv] at this;omega),aU7];unfold GU;cases hn:zS 16 0 (t.take 4) with
   |none=>rfl
   |some n=>
    have h0:=SW pK (aVW 0) hn;simp only[aWz];show (if (decide (0<=n)&&xJ n)=true then _ else _)=_;by_cases h7:xJ n=true
    .rw[aU8 (by simp [h7,h0]),aU8 h7,a9j ((IK n).1 h7)];rfl
    .rw[aVa (by simp [h7]),aVa h7];rfl
  rw[aVa (by simp only[aVg,aVf];intro h;exact h6 ⟨h.1,pJ⟩),aVa h6];rfl
def aPr (a:UInt8) (t:pG):IF (a::t)=some ((yA (a::t)).1,((yA (a::t)).2:Int)):=by
 cases t with
 |nil=>unfold IF;rw[aU8 pL];rfl
 |cons c t=>
  have hy:r7 (a::c::t) (1:Int)=(c.toNat:Int):=zL (i:=1) pL;have hlen:((a::c::t).length:Int)=(t.length:Int)+2:=by simp;omega
  unfold IF;rw[aVa pM,aU8 (⟨pK,by simp;omega⟩),hy,w4 (n:=110) 110 rfl,w4 (n:=114) 114 rfl,w4 (n:=116) 116 rfl,w4 (n:=120) 120 rfl,w4 (n:=117) 117 rfl,sib,aHZ,aH0,aH1,hlen,<-Lib.contains_iff_indexByte];show _=some ((if c=110 then(([10],2):pG×Nat) else _).1,((if c=110 then(([10],2):pG×Nat) else _).2:Int));by_cases h1:c=110
  .rw[aU8 (by simpa using h1),aU8 h1];rfl
  rw[aVa (by simpa using h1),aVa h1];by_cases h2:c=114
  .rw[aU8 (by simpa using h2),aU8 h2];rfl
  rw[aVa (by simpa using h2),aVa h2];by_cases h3:c=116
  .rw[aU8 (by simpa using h3),aU8 h3];rfl
  rw[aVa (by simpa using h3),aVa h3];by_cases hx:c=120
  .subst hx;rw[aU8 (show decide ((120:UInt8)=120)=true from rfl),aVa (show¬ME.contains 120=true by decide)];by_cases h5:2<=t.length
   .rw[aU8 pM,aU8 ⟨pK,pK,pJ⟩,aU8 (show _/\_ from⟨rfl,h5⟩),aHY _ 16 pK pK (by rw[aVx];omega),aU7];unfold GU;cases hn:zS 16 0 (t.take 2) with
    |none=>rfl
    |some n=>
     have h0:=SW pK (aVW 0) hn;have hne:t.take 2≠[]:=by intro h;have:=aVL List.length h;rw[aVx,aVv] at this;omega
     simp only[hne,decide_false,Bool.not_false,Bool.true_and];by_cases h7:n<=127
     .rw[aU8 (by simpa using h7),aU8 (by simpa using h7),aWv,show n%256=n by omega];rfl
     .rw[aVa (by simpa using h7),aVa (by simpa using h7)];rfl
   .rw[aVa pM,aVa (fun h=>h5 h.2),aVa (show¬((120:UInt8)=117/\4<=t.length) from fun h=>by cases h.1)];rfl
  rw[aVa (by simpa using hx)];by_cases hu:c=117
  .subst hu;rw[aU8 (show decide ((117:UInt8)=117)=true from rfl),aVa (show¬ME.contains 117=true by decide),aVa (show¬((117:UInt8)=120/\2<=t.length) from fun h=>by cases h.1)];by_cases h5:4<=t.length
   .rw[aU8 pM,aU8 ⟨pK,pK,pJ⟩,aU8 (show _/\_ from⟨rfl,h5⟩),aHY _ 16 pK pK (by rw[aVx];omega),aU7];unfold GU;cases hn:zS 16 0 (t.take 4) with
    |none=>rfl
    |some n=>
     have h0:=SW pK (aVW 0) hn;have hne:t.take 4≠[]:=by intro h;have:=aVL List.length h;rw[aVx,aVv] at this;omega
     simp only[hne,decide_false,Bool.not_false];rw[aU8 trivial,aO0,aU7];have hb:xJ n=(decide (n<=1114111)&&(decide (n<55296)||decide (57343<n))):=by
      unfold xJ;rw[show decide ((0:Int)<=n)=true by simpa using h0,Bool.true_and]
     rw[<-hb];by_cases h7:xJ n=true
     .rw[aU8 h7,aU8 h7,aU8 h7];rfl
     .rw[aVa h7,aVa h7];rfl
   .rw[aVa pM,aVa (fun h=>h5 h.2)];rfl
  rw[aVa (by simpa using hu)];show (if ME.contains c=true then _ else _)=_;by_cases h4:ME.contains c=true
  .rw[aU8 h4,aU8 h4,aU8 ⟨pK,pK,pJ⟩];rfl
  .rw[aVa h4,aVa h4,aVa (fun h=>hx h.1),aVa (fun h=>hu h.1)];rfl
def BI (n:Int) (b:UInt8):Bool:=decide (b=10)||((decide (n=2)||decide (n=3))&&decide (b=34))
def tZ (n:Int):pG->pG×Nat
 |[]=>([],0)
 |b::t=>if b=92 then yA (b::t) else if BI n b=true then([b],0) else([b],1)
def Y5 {l:pG}{k:Nat}{ok:Int->Bool}{f:Int->pG}(hf: ∀n,(f n).length<=4):(GU l k ok f).1.length<=4/\((GU l k ok f).2=0\/(GU l k ok f).2=k):=by
 unfold GU;cases zS 16 0 l with
 |none=>exact⟨by simp,.inl rfl⟩
 |some n=>
  dsimp only;split
  .exact⟨hf n,.inr rfl⟩
  .exact⟨by simp,.inl rfl⟩
def aPs (l:pG):(yA l).1.length<=4/\(yA l).2<=l.length:=by
 unfold yA;split
 .rename_i a c t;have h1:=Y5 (l:=t.take 2) (k:=4) (ok:=fun n=>decide (n<=127)) (f:=fun n=>tE [n]) (fun n=>by simp [tE]);have h2:=Y5 (l:=t.take 4) (k:=6) (ok:=xJ) (f:=Lib.encodeRune) a9p
  repeat' split
  all_goals first
   |exact⟨by simp,by simp⟩
   |(rename_i h;exact⟨h1.1,by rcases h1.2 with e|e<;>rw[e]<;>simp<;>omega⟩)
   |(rename_i h;exact⟨h2.1,by rcases h2.2 with e|e<;>rw[e]<;>simp<;>omega⟩)
 .exact⟨by simp,by simp⟩
def PI {n:Int}{b:UInt8}{t:pG}(h:b=92):tZ n (b::t)=yA (b::t):=aU8 h
def MF {n:Int}{b:UInt8}{t:pG}(h:b≠92) (hb:BI n b=true):tZ n (b::t)=([b],0):=(aVa h).trans (aU8 hb)
def PJ {n:Int}{b:UInt8}{t:pG}(h:b≠92) (hb: ¬BI n b=true):tZ n (b::t)=([b],1):=(aVa h).trans (aVa hb)
def SX (n:Int) (l:pG):(tZ n l).1.length<=4/\(tZ n l).2<=l.length:=by
 cases l with
 |nil=>exact⟨by simp [tZ],by simp [tZ]⟩
 |cons b t=>
  by_cases h:b=92
  .rw[PI h];exact aPs _
  .by_cases hb:BI n b=true
   .rw[MF h hb];exact⟨by simp,by simp⟩
   .rw[PJ h hb];exact⟨by simp,by simp⟩
def xV (n:Int):Nat->pG->pG⊕Nat
 |0,_=> .inl []
 |_+1,[]=> .inl []
 |k+1,b::t=>if (tZ n (b::t)).2=0 then .inr 0 else match xV n k ((b::t).drop (tZ n (b::t)).2) with
  | .inl r=> .inl ((tZ n (b::t)).1++r)
  | .inr e=> .inr ((tZ n (b::t)).2+e)
def yK (n:Int) (s:pG):pG×Int×Int:=match xV n s.length s with
 | .inl r=>(r,0,0)
 | .inr e=>([],e,3)
def Y6 (a b:pG):tV (a++b)=tV a++tV b:=by simp [tV]
def Y7 (a:pG):tE (tV a)=a:=by
 unfold tE tV;rw[List.map_map]
 conv=>rhs;rw[<-List.map_id a]
 congr 1;funext b;simp
def aH2 {s:pG}{i:Nat}(h:i<s.length):qV s (i:Int) ((i:Int)+1)=[s[i]]:=by
 unfold qV;rw[aVN,show ((i:Int)+1).toNat-i=1 by omega,aVA h];rfl
def aPt {n:Int}(h1:1<=n) (h3:n<=3) {s:pG}(hs:r8 s) {x:pP}{i:Nat}(hi:i<s.length) (hx:x.length<=10000000000000):
  SI n s (x,(i:Int))=if (tZ n (s.drop i)).2=0 then some (.inr (.inr ([],(i:Int),3))) else some (.inl (x++tV (tZ n (s.drop i)).1,((i+(tZ n (s.drop i)).2:Nat):Int))):=by
 have hs':=hs;unfold r8 at hs';have hn4:decide (n=4)=false:=by simp;omega
 have hp:=SX n (s.drop i);rw[aVh] at hp;unfold SI;dsimp only;rw[aU8 (uI hi),aU8 (sN hi),aU8 (tN pJ),aU8 ⟨pJ,pJ,pJ⟩,zL hi,aH2 hi,GT,w4 (n:=92) 92 rfl,w4 (n:=38) 38 rfl,w4 (n:=10) 10 rfl,w4 (n:=34) 34 rfl,hn4];have hb: ∀v:pG×Nat,v.1.length<=4->v.2<=s.length-i->
   ((if decide ((v.2:Int)=0)=true then(some (.inr (.inr (([]:pG),(i:Int),(3:Int)))):Option ((pP×Int)⊕(pP⊕(pG×Int×Int)))) else if x.length+v.1.length<=140737488355328 then if qJ ((i:Int)+(v.2:Int)) then some (.inl ((x++tV v.1),((i:Int)+(v.2:Int)))) else none else none)=if v.2=0 then some (.inr (.inr ([],(i:Int),3))) else some (.inl (x++tV v.1,((i+v.2:Nat):Int)))):=fun v hv1 hv2=>by
  by_cases h0:v.2=0
  .rw[aU8 (by simp [h0]),aU8 h0]
  .rw[aVa (by simpa using h0),aVa h0,aU8 pJ,aU8 (by unfold qJ;omega)];rfl
 rw[aVA hi] at hp|-;simp only[Bool.not_false,Bool.true_and,aW6,aWx,aXn];by_cases c1:s[i]=92
 .rw[PI c1] at hp|-;rw[aU8 (by simpa using c1),aU8 ⟨pJ,pJ,aVW _⟩,aPq];unfold sB;simp only[aU7];exact hb _ hp.1 hp.2
 .rw[aVa (by simpa using c1)];by_cases c2:s[i]=10
  .rw[aU8 (by simpa using c2),aU8 (by simpa using c2),MF c1 (show BI n s[i]=true by simp [BI,c2])];unfold sB;simp only[aU7];exact hb ([s[i]],0) pL pL
  .rw[aVa (by simpa using c2)];by_cases c3:((decide (n=2)||decide (n=3))&&decide (s[i]=34))=true
   .rw[aU8 c3,aU8 c3,MF c1 (show BI n s[i]=true by unfold BI;rw[c3];simp)];unfold sB;simp only[aU7];exact hb ([s[i]],0) pL pL
   .have hbad:BI n s[i]=false:=by
     have c3':((decide (n=2)||decide (n=3))&&decide (s[i]=34))=false:=by simpa using c3
     unfold BI;rw[c3'];simp [c2]
    have hbad': ¬BI n s[i]=true:=by simp [hbad]
    rw[PJ c1 hbad'] at hp|-;rw[aVa c3,aU8 (fun h=>by simp at h)];unfold sB;simp only[aU7];exact hb ([s[i]],1) pL hp.2
def aPu {n:Int}(h1:1<=n) (h3:n<=3) (b:UInt8):LQ n (b.toNat:Int)=BI n b:=by
 unfold LQ BI sH;rw[w4 (n:=10) 10 rfl,w4 (n:=34) 34 rfl];by_cases c1:n=1
 .subst c1;simp
 .have h23:n=2\/n=3:=by omega
  rcases h23 with rfl|rfl<;>simp
def aPv {x:pP}{c:Int}(hx:x.length<=10000000000000):LR (x,()) c=some ():=by
 unfold LR;exact aU8 (by simp only[aVT,aXj];omega)
def aPw {x:pP}{t:pG}(hx:x.length<=10000000000000) (ht:t.length<=4000000000):ED (x,()) t=some ():=by
 unfold ED;exact aU8 (by dsimp only;omega)
def aPx {n:Int}(h1:1<=n) (h3:n<=3) {s:pG}(hs:r8 s) {x:pP}{i:Nat}(hi:i<s.length) (hx:x.length<=10000000000000):
  OX n s ((i:Int),x)=if (tZ n (s.drop i)).2=0 then some (.inr (.inr ([],(i:Int),3))) else some (.inl (((i+(tZ n (s.drop i)).2:Nat):Int),x++tV (tZ n (s.drop i)).1)):=by
 have hs':=hs;unfold r8 at hs';have hp:=SX n (s.drop i);rw[aVh] at hp;unfold OX;dsimp only;rw[aU8 (uI hi),aU8 (sN hi),zL hi,GT,w4 (n:=92) 92 rfl,aPu h1 h3];rw[aVA hi] at hp|-;by_cases c1:s[i]=92
 .rw[PI c1] at hp|-;rw[aU8 (by simpa using c1),aU8 ⟨pJ,pJ,aVW _⟩,aPr];simp only[aU7];by_cases h0:(yA (s[i]::s.drop (i+1))).2=0
  .rw[aU8 (by rw[h0];rfl),aU8 h0]
  .rw[aVa (by rw[aVf];omega),aVa h0,aPw hx pJ];simp only[aU7];rw[aU8 (by unfold qJ;omega)];rfl
 .rw[aVa (by simpa using c1),aU8 (sN hi)];by_cases hb:BI n s[i]=true
  .rw[aU8 hb,MF c1 hb];rfl
  .rw[aVa hb,PJ c1 hb,aU8 (sN hi),aPv hx,aU7];rw[aU8 (tN pJ)];rfl
def aH3 {n:Int}(h1:1<=n) (h3:n<=3) {s:pG}(hs:r8 s): ∀(k i:Nat) (x:pP),i<=s.length->s.length-i<=k->x.length+4*(s.length-i)<=5000000000000->
  rE (SI n s) (x,(i:Int))=some (match xV n k (s.drop i) with| .inl r=> .inl (x++tV r) | .inr e=> .inr ([],((i+e:Nat):Int),3))
 |k,i,x,hi,hk,hx=>by
  by_cases hlt:i<s.length
  .cases k with
   |zero=>omega
   |succ k=>
    have hp:=SX n (s.drop i);rw[yZ,aPt h1 h3 hs hlt pJ];rw[aVh] at hp;have hu:xV n (k+1) (s.drop i)=if (tZ n (s.drop i)).2=0 then .inr 0 else match xV n k ((s.drop i).drop (tZ n (s.drop i)).2) with
      | .inl r=> .inl ((tZ n (s.drop i)).1++r)
      | .inr e=> .inr ((tZ n (s.drop i)).2+e):=by
     rw[aVA hlt,xV]
    rw[hu];by_cases h0:(tZ n (s.drop i)).2=0
    .rw[aU8 h0,aU8 h0];rfl
    .rw[aVa h0,aVa h0];show rE _ (_,((i+(tZ n (s.drop i)).2:Nat):Int))=_;rw[aH3 h1 h3 hs k _ _ pJ pJ (by rw[aVc];simp only[tV,aWF];omega),aVQ];cases xV n k (s.drop (i+(tZ n (s.drop i)).2)) with
     |inl r=>dsimp only;rw[Y6,aVi]
     |inr e=>dsimp only;rw[aVS]
  .have:i=s.length:=by omega
   subst this;rw[wW (r:= .inl x) (by unfold SI;simp),aVR];cases k<;>simp [xV,tV]
def aH4 {n:Int}(h1:1<=n) (h3:n<=3) {s:pG}(hs:r8 s): ∀(k i:Nat) (x:pP),i<=s.length->s.length-i<=k->x.length+4*(s.length-i)<=5000000000000->
  rE (OX n s) ((i:Int),x)=some (match xV n k (s.drop i) with| .inl r=> .inl (x++tV r) | .inr e=> .inr ([],((i+e:Nat):Int),3))
 |k,i,x,hi,hk,hx=>by
  by_cases hlt:i<s.length
  .cases k with
   |zero=>omega
   |succ k=>
    have hp:=SX n (s.drop i);rw[yZ,aPx h1 h3 hs hlt pJ];rw[aVh] at hp;have hu:xV n (k+1) (s.drop i)=if (tZ n (s.drop i)).2=0 then .inr 0 else match xV n k ((s.drop i).drop (tZ n (s.drop i)).2) with
      | .inl r=> .inl ((tZ n (s.drop i)).1++r)
      | .inr e=> .inr ((tZ n (s.drop i)).2+e):=by
     rw[aVA hlt,xV]
    rw[hu];by_cases h0:(tZ n (s.drop i)).2=0
    .rw[aU8 h0,aU8 h0];rfl
    .rw[aVa h0,aVa h0];show rE _ (((i+(tZ n (s.drop i)).2:Nat):Int),_)=_;rw[aH4 h1 h3 hs k _ _ pJ pJ (by rw[aVc];simp only[tV,aWF];omega),aVQ];cases xV n k (s.drop (i+(tZ n (s.drop i)).2)) with
     |inl r=>dsimp only;rw[Y6,aVi]
     |inr e=>dsimp only;rw[aVS]
  .have:i=s.length:=by omega
   subst this;rw[wW (r:= .inl x) (by unfold OX;simp),aVR];cases k<;>simp [xV,tV]
def aPy {n:Int}(h1:1<=n) (h3:n<=3) {s:pG}(hs:r8 s):SJ n s=some (yK n s):=by
 unfold SJ;have hs':=hs;unfold r8 at hs';rw[aVa pM,show (([]:pP),(0:Int))=(([]:pP),((0:Nat):Int)) from rfl,aH3 h1 h3 hs s.length 0 [] pJ pJ pM,aWf];unfold yK;cases xV n s.length s with
 |inl r=>
  show some (tE ([]++tV r),(0:Int),(0:Int))=_;rw[List.nil_append,Y7]
 |inr e=>
  show some (([]:pG),((0+e:Nat):Int),(3:Int))=_;rw[aVF]
def aPz {n:Int}(h1:1<=n) (h3:n<=3) {s:pG}(hs:r8 s):GR n s=some (yK n s):=by
 unfold GR;have hs':=hs;unfold r8 at hs';rw[aVa pM,aVa pM,show ((0:Int),([]:pP))=(((0:Nat):Int),([]:pP)) from rfl,aH4 h1 h3 hs s.length 0 [] pJ pJ pM,aWf];unfold yK;cases xV n s.length s with
 |inl r=>
  show some (tE ([]++tV r),(0:Int),(0:Int))=_;rw[List.nil_append,Y7]
 |inr e=>
  show some (([]:pG),((0+e:Nat):Int),(3:Int))=_;rw[aVF]
def vR (b:UInt8):Bool:=((decide (b=32)||decide (b=9))||decide (b=10))||decide (b=13)
def sV (x y:UInt8):pG->Bool
 |b::c::_=>decide (b=x)&&decide (c=y)
 |_=>false
def tQ (l:pG):Nat:=(l.findIdx? fun b=>decide (b=10)).getD l.length
def uO:pG->pS
 |[]=>none
 |b::t=>if sV 42 47 (b::t)=true then some 0 else(uO t).map (· +1)
def BZ (n:Nat) (g:Nat×Bool):Nat×Bool:=(n+g.1,g.2)
def zT:Nat->pG->Nat×Bool
 |0,_=>(0,true)
 |_+1,[]=>(0,true)
 |k+1,b::t=>
  if vR b=true then BZ 1 (zT k t)
  else if sV 47 47 (b::t)=true then BZ (tQ (b::t)) (zT k ((b::t).drop (tQ (b::t))))
  else if sV 47 42 (b::t)=true then match uO ((b::t).drop 2) with
   |none=>(0,false)
   |some e=>BZ (e+4) (zT k ((b::t).drop (e+4)))
  else(0,true)
def G (l:pG):Nat×Bool:=zT l.length l
def K8 {l:pG}(h:sV 47 47 l=true):2<=tQ l/\tQ l<=l.length:=by
 unfold sV at h;split at h
 .rename_i b c t;simp only[aVg,aVf] at h;obtain⟨rfl,rfl⟩:=h;unfold tQ;rw[aWd,aVa pK,aWd,aVa pK];cases h:t.findIdx? fun b=>decide (b=10) with
  |none=>simp
  |some k=>
   have:=(aVM.1 h).1;simp;omega
 .cases h
def PL: ∀{l:pG}{e:Nat},uO l=some e->e+2<=l.length
 |[],_,h=>by cases h
 |b::t,e,h=>by
  unfold uO at h;split at h
  .rename_i hb;cases h;cases t with
   |nil=>simp [sV] at hb
   |cons c t=>simp
  .cases hc:uO t with
   |none=>rw[hc] at h;cases h
   |some e'=>
    rw[hc] at h;obtain rfl:e'+1=e:=aVe h;have:=PL hc;simp only[aVd];omega
def Y8: ∀(n k k':Nat) (l:pG),l.length<=n->l.length<=k->l.length<=k'->zT k l=zT k' l
 |n,k,k',[],_,_,_=>by cases k<;>cases k'<;>rfl
 |0,_,_,b::t,h,_,_=>by simp at h
 |n+1,0,_,b::t,_,h,_=>by simp at h
 |n+1,_,0,b::t,_,_,h=>by simp at h
 |n+1,k+1,k'+1,b::t,h,h1,h2=>by
  simp only[aVd] at h h1 h2;unfold zT;split
  .rw[Y8 n k k' t pJ pJ pJ]
  .split
   .rename_i hb;have:=K8 hb;rw[Y8 n k k' _ (by rw[aVh];simp only[aVd];omega) (by rw[aVh];simp only[aVd];omega) (by rw[aVh];simp only[aVd];omega)]
   .split
    .cases hc:uO ((b::t).drop 2) with
     |none=>rfl
     |some e=>
      dsimp only;rw[Y8 n k k' _ (by rw[aVh];simp only[aVd];omega) (by rw[aVh];simp only[aVd];omega) (by rw[aVh];simp only[aVd];omega)]
    .rfl
def aH5 {k:Nat}{l:pG}(h:l.length<=k):zT k l=G l:=Y8 l.length k l.length l (aVp _) h (aVp _)
def aPA:G []=(0,true):=rfl
def C1 {b:UInt8}{t:pG}(h:vR b=true):G (b::t)=BZ 1 (G t):=by
 show zT (t.length+1) (b::t)=_;unfold zT;rw[aU8 h];rfl
def EJ {b:UInt8}{t:pG}(h: ¬vR b=true) (h1:sV 47 47 (b::t)=true):G (b::t)=BZ (tQ (b::t)) (G ((b::t).drop (tQ (b::t)))):=by
 have:=K8 h1;show zT (t.length+1) (b::t)=_;unfold zT;rw[aVa h,aU8 h1,aH5 (by rw[aVh];simp only[aVd];omega)]
def MG {b:UInt8}{t:pG}(h: ¬vR b=true) (h1: ¬sV 47 47 (b::t)=true) (h2:sV 47 42 (b::t)=true) (hc:uO ((b::t).drop 2)=none):G (b::t)=(0,false):=by
 show zT (t.length+1) (b::t)=_;unfold zT;rw[aVa h,aVa h1,aU8 h2,hc]
def EK {b:UInt8}{t:pG}{e:Nat}(h: ¬vR b=true) (h1: ¬sV 47 47 (b::t)=true) (h2:sV 47 42 (b::t)=true) (hc:uO ((b::t).drop 2)=some e):G (b::t)=BZ (e+4) (G ((b::t).drop (e+4))):=by
 show zT (t.length+1) (b::t)=_;unfold zT;rw[aVa h,aVa h1,aU8 h2,hc];dsimp only;rw[aH5 (by rw[aVh];simp only[aVd];omega)]
def GV {b:UInt8}{t:pG}(h: ¬vR b=true) (h1: ¬sV 47 47 (b::t)=true) (h2: ¬sV 47 42 (b::t)=true):G (b::t)=(0,true):=by
 show zT (t.length+1) (b::t)=_;unfold zT;rw[aVa h,aVa h1,aVa h2]
def MH: ∀(n:Nat) (l:pG),l.length<=n->(G l).1<=l.length
 |_,[],_=>aVp _
 |0,_::_,h=>by simp at h
 |n+1,b::t,h=>by
  simp only[aVd] at h|-;by_cases h0:vR b=true
  .rw[C1 h0];have:=MH n t pJ;show 1+_<=_;omega
  .by_cases h1:sV 47 47 (b::t)=true
   .rw[EJ h0 h1];have hl:=K8 h1;have:=MH n ((b::t).drop (tQ (b::t))) (by rw[aVh];simp only[aVd] at hl|-;omega);rw[aVh] at this;simp only[aVd] at this hl;show tQ _+_<=_;omega
   .by_cases h2:sV 47 42 (b::t)=true
    .cases hc:uO ((b::t).drop 2) with
     |none=>rw[MG h0 h1 h2 hc];exact aVX _
     |some e=>
      rw[EK h0 h1 h2 hc];have he:=PL hc;have:=MH n ((b::t).drop (e+4)) (by rw[aVh];simp only[aVd];omega);rw[aVh] at this he;simp only[aVd] at this he;show e+4+_<=_;omega
    .rw[GV h0 h1 h2];exact aVX _
def Y9 {s:pG}{i:Nat}(hi:i<=s.length) (x y:UInt8):((decide ((([x,y]:pG).length:Int)<=((s.length:Int)- (i:Int))))&&(decide ((qV s (i:Int) ((i:Int)+(([x,y]:pG).length:Int)))=([x,y]:pG))))=sV x y (s.drop i):=by
 have hc:qV s (i:Int) ((i:Int)+(([x,y]:pG).length:Int))=(s.drop i).take 2:=by
  unfold qV;rw[aVN];congr 1;show ((i:Int)+2).toNat-i=2;omega
 have hl:(s.drop i).length=s.length-i:=aVh;rw[hc];generalize s.drop i=r at hl
 match r,hl with
 |[],hl=>simp only[aVv] at hl;rw[show decide ((([x,y]:pG).length:Int)<=((s.length:Int)- (i:Int)))=false by simp only[aVd,aVv,aVO];omega];rfl
 |[b],hl=>simp only[aVd,aVv] at hl;rw[show decide ((([x,y]:pG).length:Int)<=((s.length:Int)- (i:Int)))=false by simp only[aVd,aVv,aVO];omega];rfl
 |b::c::t,hl=>
  simp only[aVd] at hl;rw[show decide ((([x,y]:pG).length:Int)<=((s.length:Int)- (i:Int)))=true by simp;omega,Bool.true_and];show decide ([b,c]=[x,y])=_;unfold sV;rw[aWk];simp
def a9u {s:pG}(hs:r8 s) {i:Nat}(hi:i<=s.length) (x y:UInt8):O6 s (i:Int) [x,y]=some ():=by
 unfold r8 at hs;have h2:((([x,y]:pG).length:Nat):Int)=2:=rfl;unfold O6;rw[h2,aU8 (by unfold qJ;omega),aU8 (fun _=>by unfold qJ;omega),aU8];intro h;simp only[aXo,aVf] at h;omega
def aH6 (r:pG) (x y:UInt8):((decide ((([x,y]:pG).length:Int)<=(r.length:Int)))&&(decide ((qV r (0:Int) (([x,y]:pG).length:Int))=([x,y]:pG))))=sV x y r:=by
 have:=Y9 (s:=r) (i:=0) (aVX _) x y;rw[aWf,show ((0:Nat):Int)=0 from rfl,Int.sub_zero,Int.zero_add] at this;exact this
def aH7 (r:pG) (x y:UInt8):LW r [x,y]=some ():=by
 have h2:((([x,y]:pG).length:Nat):Int)=2:=rfl;unfold LW OB;rw[h2,aU8]
 .rfl
 .intro h;simp only[aXo,aVf] at h;exact⟨aVW _,pK,h⟩
def aH8 (x y:UInt8):(x==y)=decide (y=x):=by
 by_cases h:y=x
 .subst h;rw[beq_self_eq_true,aWh rfl]
 .rw[decide_eq_false h,beq_eq_false_iff_ne];exact fun e=>h e.symm
def aH9 {o:pS}:(if (FS o== -1)=true then(-1:Int) else FS o+1)=FS (o.map (· +1)):=by
 cases o with
 |none=>rfl
 |some k=>
  show (if ((k:Int)== -1)=true then(-1:Int) else(k:Int)+1)=((k+1:Nat):Int);rw[aVa (by rw[aXo];omega)];rfl
def aIa: ∀(l:pG),Lib.indexByte l 10=FS (l.findIdx? fun b=>decide (b=10))
 |[]=>rfl
 |b::t=>by
  rw[Lib.indexByte,aWd,aIa t,aH8,aH9];by_cases h:b=10
  .subst h;rfl
  .rw[aVa (by simpa using fun e=>h (Eq.symm e)),aVa (by simpa using h)]
def aIb: ∀(l:pG),Lib.index l [42,47]=FS (uO l)
 |[]=>rfl
 |b::t=>by
  rw[Lib.index,uO,aIb t,aH9];have hp:([42,47]:pG).isPrefixOf (b::t)=sV 42 47 (b::t):=by
   cases t with
   |nil=>simp only[List.isPrefixOf,Bool.and_false,sV]
   |cons c t=>simp only[List.isPrefixOf,Bool.and_true,sV,aH8]
  rw[hp];by_cases h:sV 42 47 (b::t)=true
  .rw[aU8 h,aU8 h];rfl
  .rw[aVa h,aVa h]
def aPB {s:pG}(hs:r8 s) {i:Nat}(hi:i<=s.length):rE (RZ s) (i:Int)=some ((i+tQ (s.drop i):Nat):Int):=by
 have hs':=hs;unfold r8 at hs';have h:=XS (f:=RZ s) (l:=s) (fun b=> !decide (b=10)) (fun i h=>by
  unfold RZ;rw[aU8 (fun _=>sN h),uI h,Bool.true_and,zL h,w4 (n:=10) 10 rfl,aU8 (tN pJ)]) (by
  unfold RZ;have hF:decide ((s.length:Int)<(s.length:Int))=false:=by simp
  rw[hF,aU8 (fun h=>by simp at h),aW6,aVa pK]) (s.length-i) i pJ
 rw[h];unfold tQ;simp only[Bool.not_not,aVh]
def aPC {s:pG}{i:Nat}(h:i<s.length):uO (s.drop i)=if sV 42 47 (s.drop i)=true then some 0 else(uO (s.drop (i+1))).map (· +1):=by
 rw[aVA h,uO]
def a9v (i n:Nat):pS->Int
 |some e=>(i:Int)+(e:Int)
 |none=>(n:Int)
def aIc {s:pG}(hs:r8 s): ∀(n i:Nat),i+n=s.length->rE (S0 s) (i:Int)=some (a9v i s.length (uO (s.drop i)))
 |0,i,h=>by
  have:i=s.length:=by omega
  subst this;have hF:decide ((s.length:Int)<(s.length:Int))=false:=by simp
  rw[wW (r:=(s.length:Int)) (by unfold S0;rw[hF,aU8 (fun h=>by simp at h),aW6,aVa pK]),aVR];rfl
 |n+1,i,h=>by
  have hlt:i<s.length:=by omega
  have hs':=hs;unfold r8 at hs';rw[yZ,aPC hlt];unfold S0;rw[a9u hs pJ,Y9 pJ,uI hlt,Bool.true_and,aU8 (show ((true==true)=true->(some ()).isSome=true) from fun _=>rfl)];by_cases hb:sV 42 47 (s.drop i)=true
  .rw[aVa (by rw[hb];decide),aU8 hb];show some ((i:Int))=some ((i:Int)+((0:Nat):Int));rw[show ((i:Int)+((0:Nat):Int))=(i:Int) by omega]
  .rw[aU8 (by simpa using hb),aU8 (tN pJ),aVa hb];show rE (S0 s) ((i+1:Nat):Int)=_;rw[aIc hs n (i+1) pJ];cases uO (s.drop (i+1)) with
   |none=>rfl
   |some e=>
    show some ((((i+1:Nat)):Int)+(e:Int))=some ((i:Int)+(((e+1:Nat)):Int));rw[show (((i+1:Nat)):Int)+(e:Int)=(i:Int)+(((e+1:Nat)):Int) by omega]
def wsE (b:UInt8):((((decide ((b.toNat:Int)=(32:Int)))||(decide ((b.toNat:Int)=(9:Int))))||(decide ((b.toNat:Int)=(10:Int))))||(decide ((b.toNat:Int)=(13:Int))))=vR b:=by
 rw[w4 (n:=32) 32 rfl,w4 (n:=9) 9 rfl,w4 (n:=10) 10 rfl,w4 (n:=13) 13 rfl];rfl
def aId {s:pG}{i:Nat}(h:sV 47 42 (s.drop i)=true):i+2<=s.length:=by
 have hl:(s.drop i).length=s.length-i:=aVh;unfold sV at h;split at h
 .rename_i b c t he;rw[he] at hl;simp only[aVd] at hl;omega
 .cases h
def YA {s:pG}(hs:r8 s): ∀(n i:Nat),i<=s.length->s.length-i<=n->sZ (rE (LV s) (i:Int)) (fun x=>some x)=some ((i+(G (s.drop i)).1:Nat):Int)
 |n,i,hi,hn=>by
  have hs':=hs;unfold r8 at hs';by_cases hlt:i<s.length
  .cases n with
   |zero=>omega
   |succ n=>
    have hd:=aVA hlt;rw[yZ];unfold LV;rw[aU8 (uI hlt),aU8 (sN hlt),aU8 (fun _=>sN hlt),aU8 (fun _=>sN hlt),aU8 (fun _=>sN hlt),zL hlt,wsE];by_cases h0:vR s[i]=true
    .rw[aU8 h0,aU8 (tN pJ),hd,C1 h0];show sZ (rE (LV s) ((i+1:Nat):Int)) _=_;rw[YA hs n (i+1) pJ pJ];show _=some (((i+(1+(G (s.drop (i+1))).1):Nat)):Int);rw[show i+1+(G (s.drop (i+1))).1=i+(1+(G (s.drop (i+1))).1) by omega]
    .rw[aVa h0,a9u hs hi,aU7,Y9 hi];by_cases h1:sV 47 47 (s.drop i)=true
     .have hl:=K8 h1;rw[aVh] at hl;rw[aU8 h1,aPB hs hi];unfold sB;rw[aU7];show sZ (rE (LV s) ((i+tQ (s.drop i):Nat):Int)) _=_;rw[YA hs n (i+tQ (s.drop i)) pJ pJ];have hg:G (s.drop i)=BZ (tQ (s.drop i)) (G ((s.drop i).drop (tQ (s.drop i)))):=by
       rw[hd] at h1|-;exact EJ h0 h1
      rw[hg,aVQ];show _=some (((i+(tQ (s.drop i)+(G (s.drop (i+tQ (s.drop i)))).1):Nat)):Int);rw[aVS]
     .rw[aVa h1,a9u hs hi,aU7,Y9 hi];by_cases h2:sV 47 42 (s.drop i)=true
      .have h2l:=aId h2;rw[aU8 h2,aU8 (by unfold qJ;omega),show ((i:Int)+2)=((i+2:Nat):Int) by omega,aIc hs (s.length- (i+2)) (i+2) pJ];unfold sB;rw[aU7];cases hc:uO (s.drop (i+2)) with
       |none=>
        rw[show a9v (i+2) s.length none=(s.length:Int) from rfl,aU8 pL];have hg:G (s.drop i)=(0,false):=by
         rw[hd] at h1 h2|-;exact MG h0 h1 h2 (by rw[<-hd,aVQ];exact hc)
        rw[hg];rfl
       |some e=>
        have he:=PL hc;rw[aVh] at he;have hz:a9v (i+2) s.length (some e)=(i:Int)+2+(e:Int):=by
         show (((i+2:Nat)):Int)+(e:Int)=_;omega
        rw[hz,aVa (by rw[aVf];omega),aU8 (by unfold qJ;omega)];have hg:G (s.drop i)=BZ (e+4) (G ((s.drop i).drop (e+4))):=by
         rw[hd] at h1 h2|-;exact EK h0 h1 h2 (by rw[<-hd,aVQ];exact hc)
        show sZ (rE (LV s) ((i:Int)+2+(e:Int)+2)) _=_;rw[show ((i:Int)+2+(e:Int)+2)=((i+(e+4):Nat):Int) by omega,YA hs n (i+(e+4)) pJ pJ,hg,aVQ];show _=some (((i+(e+4+(G (s.drop (i+(e+4)))).1):Nat)):Int);rw[show i+(e+4+(G (s.drop (i+(e+4)))).1)=i+(e+4)+(G (s.drop (i+(e+4)))).1 by omega]
      .rw[aVa h2];have hg:G (s.drop i)=(0,true):=by
        rw[hd] at h1 h2|-;exact GV h0 h1 h2
       rw[hg];rfl
  .have:i=s.length:=by omega
   subst this;rw[wW (r:= .inl (s.length:Int)) (by unfold LV;rw[aVa (vZ _)]),aVR];rfl
def PM {s:pG}(hs:r8 s) {i:Nat}(hi:i<=s.length):OK s (i:Int)=some ((i+(G (s.drop i)).1:Nat):Int):=by
 unfold OK;exact YA hs (s.length-i) i hi (aVp _)
def wsI (b:UInt8):decide ((0:Int)<=uY ([32,9,10,13]:pG) (b.toNat:Int))=vR b:=by
 rw[sib,<-Lib.contains_iff_indexByte];unfold vR;rw[aWk];simp [or_assoc]
def aPF {t:pG}:G (10::t)=BZ 1 (G t):=C1 rfl
def aPG {l:pG}{k:Nat}(h:l.findIdx? (fun b=>decide (b=10))=some k):tQ l=k/\k<l.length/\l.drop k=10::l.drop (k+1):=by
 obtain⟨hk,hp,_⟩:=aVM.1 h;refine⟨by unfold tQ;rw[h];rfl,hk,?_⟩;rw[aVA hk];simp only[aVf] at hp;rw[hp]
def aPH {l:pG}(h:l.findIdx? (fun b=>decide (b=10))=none):tQ l=l.length:=by unfold tQ;rw[h];rfl
def SY {s:pG}(hs:r8 s) (j0:Int): ∀(n i:Nat),i<=s.length->s.length-i<=n->sZ (rE (IB (s,(j0,()))) (i:Int)) (fun x=>some (true,x))=some ((G (s.drop i)).2,((i+(G (s.drop i)).1:Nat):Int))
 |n,i,hi,hn=>by
  have hs':=hs;unfold r8 at hs';by_cases hlt:i<s.length
  .cases n with
   |zero=>omega
   |succ n=>
    have hd:=aVA hlt;have hl:(s.drop i).length=s.length-i:=aVh;rw[yZ];unfold IB;dsimp only;rw[aU8 (uI hlt),aU8 ⟨pJ,pJ,aVW _⟩,GT,aU8 ⟨aVW _,pJ⟩];have hb:r7 (s.drop i) 0=(s[i].toNat:Int):=by
     rw[hd];exact zL (i:=0) (by simp only[aVd];omega)
    rw[hb,wsI];by_cases h0:vR s[i]=true
    .rw[aU8 h0,aU8 (tN pJ),hd,C1 h0];show sZ (rE (IB (s,(j0,()))) ((i+1:Nat):Int)) _=_;rw[SY hs j0 n (i+1) pJ pJ];show _=some ((G (s.drop (i+1))).2,(((i+(1+(G (s.drop (i+1))).1):Nat)):Int));rw[show i+1+(G (s.drop (i+1))).1=i+(1+(G (s.drop (i+1))).1) by omega]
    .rw[aVa h0,aH7,aU7,aH6];by_cases h1:sV 47 47 (s.drop i)=true
     .have hg:G (s.drop i)=BZ (tQ (s.drop i)) (G ((s.drop i).drop (tQ (s.drop i)))):=by
       rw[hd] at h1|-;exact EJ h0 h1
      have hx:uY (s.drop i) 10=FS ((s.drop i).findIdx? fun b=>decide (b=10)):=aIa _;rw[aU8 h1,hx];cases hf:(s.drop i).findIdx? fun b=>decide (b=10) with
      |none=>
       have hln:=aPH hf;rw[aU8 pK,aU8 (by unfold qJ;omega),aU8 (by unfold qJ;omega),aU8 (by unfold qJ;omega),hl];show sZ (rE (IB (s,(j0,()))) _) _=_;rw[show ((i:Int)+(((s.length-i:Nat):Int)-1+1))=((s.length:Nat):Int) by omega,SY hs j0 n s.length (aVp _) pJ,hg,hln,aVR,aVR,hl];show some (true,((s.length+0:Nat):Int))=some (true,((i+(s.length-i+0):Nat):Int));rw[show s.length+0=i+(s.length-i+0) by omega]
      |some k=>
       obtain⟨hln,hk,hdk⟩:=aPG hf;rw[hl] at hk;show sZ (Option.bind (if decide ((k:Int)<0)=true then _ else if qJ ((k:Int)+1) then if qJ ((i:Int)+((k:Int)+1)) then _ else _ else _) _) _=_;rw[aVa pL,aU8 (tN pJ),aU8 (by unfold qJ;omega)];show sZ (rE (IB (s,(j0,()))) ((i:Int)+((k:Int)+1))) _=_;rw[show ((i:Int)+((k:Int)+1))=((i+(k+1):Nat):Int) by omega,SY hs j0 n (i+(k+1)) pJ pJ,hg,hln,hdk,aPF,aVQ];show some ((G (s.drop (i+(k+1)))).2,_)=some ((G (s.drop (i+(k+1)))).2,(((i+(k+(1+(G (s.drop (i+(k+1)))).1)):Nat)):Int));rw[show i+(k+(1+(G (s.drop (i+(k+1)))).1))=i+(k+1)+(G (s.drop (i+(k+1)))).1 by omega]
     .rw[aVa h1,aH7,aU7,aH6];by_cases h2:sV 47 42 (s.drop i)=true
      .have h2l:=aId h2;have hcut:qV (s.drop i) 2 ((s.drop i).length:Int)=s.drop (i+2):=by
        rw[show ((2:Int))=((2:Nat):Int) from rfl,GT,aVQ]
       rw[aU8 h2,aU8 ⟨pK,pJ,aVW _⟩,hcut,aU8 (by rw[aVh];omega),show NW (s.drop (i+2)) [42,47]=FS (uO (s.drop (i+2))) from aIb _];cases hc:uO (s.drop (i+2)) with
       |none=>
        rw[aU8 pK];have hg:G (s.drop i)=(0,false):=by
         rw[hd] at h1 h2|-;exact MG h0 h1 h2 (by rw[<-hd,aVQ];exact hc)
        rw[hg];rfl
       |some e=>
        have he:=PL hc;rw[aVh] at he;have hg:G (s.drop i)=BZ (e+4) (G ((s.drop i).drop (e+4))):=by
         rw[hd] at h1 h2|-;exact EK h0 h1 h2 (by rw[<-hd,aVQ];exact hc)
        show sZ (Option.bind (if decide ((e:Int)<0)=true then _ else if qJ ((e:Int)+4) then if qJ ((i:Int)+((e:Int)+4)) then _ else _ else _) _) _=_;rw[aVa pL,aU8 (by unfold qJ;omega),aU8 (by unfold qJ;omega)];show sZ (rE (IB (s,(j0,()))) ((i:Int)+((e:Int)+4))) _=_;rw[show ((i:Int)+((e:Int)+4))=((i+(e+4):Nat):Int) by omega,SY hs j0 n (i+(e+4)) pJ pJ,hg,aVQ];show _=some ((G (s.drop (i+(e+4)))).2,(((i+(e+4+(G (s.drop (i+(e+4)))).1):Nat)):Int));rw[show i+(e+4+(G (s.drop (i+(e+4)))).1)=i+(e+4)+(G (s.drop (i+(e+4)))).1 by omega]
      .rw[aVa h2];have hg:G (s.drop i)=(0,true):=by
        rw[hd] at h1 h2|-;exact GV h0 h1 h2
       rw[hg];rfl
  .have:i=s.length:=by omega
   subst this;rw[wW (r:= .inl (s.length:Int)) (by unfold IB;rw[aVa (vZ _)]),aVR];rfl
def aPI {s:pG}(hs:r8 s) {i:Nat}(hi:i<=s.length):JY (s,((i:Int),()))=some ((G (s.drop i)).2,((i+(G (s.drop i)).1:Nat):Int)):=by
 unfold JY;exact SY hs _ (s.length-i) i hi (aVp _)
def yB (c:Int):Bool:=((decide ((97:Int)≤c))&&(decide (c≤(122:Int))))||((decide ((65:Int)≤c))&&(decide (c≤(90:Int))))
def SZ (c:Int):Bool:=((((yB c)||((decide ((48:Int)≤c))&&(decide (c≤(57:Int)))))||(decide (c=(45:Int))))||(decide (c=(95:Int))))||(decide (c=(46:Int)))
def wQ (b:UInt8):Bool:=SZ b.toNat
def wA (l:pG):Nat:=(l.findIdx? fun b=> !wQ b).getD l.length
def a9w (l:pG):wA l≤l.length:=by
  unfold wA;cases h:l.findIdx? fun b=> !wQ b with
  |none=>exact aVp _
  |some k=>exact Nat.le_of_lt (aVM.1 h).1
def x9 (t:pG):Int×pG×Nat:=
  match sU 34 t with
  |none=>(0,[],0)
  |some n=>if (yK 3 (t.take n)).2.2≠0∨tG (yK 3 (t.take n)).1=false then(0,[],0) else(1,(yK 3 (t.take n)).1,n+2)
def tX (r:pG):Int×pG×Nat:=
  match r with
  |[]=>(4,[],0)
  |b::t=>if b=123∨b=125 then(3,[b],1) else if b=34 then x9 t else if yB b.toNat=true then(2,(b::t).take (wA (b::t)),wA (b::t)) else(0,[],0)
def FT {b:UInt8}{t:pG}(h:b=123∨b=125):tX (b::t)=(3,[b],1):=aU8 h
def DM {b:UInt8}{t:pG}(h: ¬(b=123∨b=125)) (h2:b=34):tX (b::t)=x9 t:=(aVa h).trans (aU8 h2)
def DN {b:UInt8}{t:pG}(h: ¬(b=123∨b=125)) (h2: ¬b=34) (h3:yB b.toNat=true):tX (b::t)=(2,(b::t).take (wA (b::t)),wA (b::t)):=(aVa h).trans ((aVa h2).trans (aU8 h3))
def K9 {b:UInt8}{t:pG}(h: ¬(b=123∨b=125)) (h2: ¬b=34) (h3: ¬yB b.toNat=true):tX (b::t)=(0,[],0):=(aVa h).trans ((aVa h2).trans (aVa h3))
def tO (l:pG):Int×pG×Nat×Nat:=
  if (G l).2=true then((tX (l.drop (G l).1)).1,(tX (l.drop (G l).1)).2.1,(G l).1,(G l).1+(tX (l.drop (G l).1)).2.2) else(0,[],(G l).1,(G l).1)
def T0: ∀(n:Nat) (l:pG),l.length≤n→(G l).2=false→∃t,l.drop (G l).1=47::t
  |_,[],_,h=>by cases h
  |0,_::_,h,_=>by simp at h
  | n+1,b::t,hl,h=>by
    simp only[aVd] at hl;by_cases h0:vR b=true
    · rw[C1 h0] at h|-
      obtain⟨u,hu⟩:=T0 n t pJ h;refine⟨u,?_⟩;show (b::t).drop (1+(G t).1)=_;rw[Nat.add_comm,aWS];exact hu
    · by_cases h1:sV 47 47 (b::t)=true
      · rw[EJ h0 h1] at h|-
        have hp:=K8 h1;obtain⟨u,hu⟩:=T0 n ((b::t).drop (tQ (b::t))) (by rw[aVh];simp only[aVd] at hp|-;omega) h;refine⟨u,?_⟩;rw[aVQ] at hu;exact hu
      · by_cases h2:sV 47 42 (b::t)=true
        · cases hc:uO ((b::t).drop 2) with
          | none=>
            rw[MG h0 h1 h2 hc];unfold sV at h2;split at h2
            · rename_i b' c' t' he
              simp only[aVg,aVf] at h2;exact⟨c'::t',by rw[he,h2.1];rfl⟩
            .cases h2
          | some e=>
            rw[EK h0 h1 h2 hc] at h|-;obtain⟨u,hu⟩:=T0 n ((b::t).drop (e+4)) (by rw[aVh];simp only[aVd];omega) h;refine⟨u,?_⟩;rw[aVQ] at hu;exact hu
        .rw[GV h0 h1 h2] at h;cases h
def aIe (t:pG):tX (47::t)=(0,[],0):=by
  exact K9 pK pK pK
def aPJ (t:pG):(x9 t).2.2≤t.length+1:=by
  unfold x9;cases h:sU 34 t with
  |none=>exact aVX _
  | some n=>
    have:=PH t.length t n (aVp _) h;dsimp only;split
    .exact aVX _
    .show n+2≤_;omega
def aPK (r:pG):(tX r).2.2≤r.length:=by
  unfold tX;split
  .exact aVX _
  · rename_i b t
    split
    .simp
    · split
      .exact aPJ t
      · split
        .exact a9w _
        .exact aVX _
def aPL (l:pG):(tO l).2.2.1≤(tO l).2.2.2∧(tO l).2.2.2≤l.length:=by
  have h1:=MH l.length l (aVp _);have h2:=aPK (l.drop (G l).1);rw[aVh] at h2;unfold tO;split
  .dsimp only;omega
  .dsimp only;omega
def aIf {s:pG}(hs:r8 s) (n:Nat):r8 (s.drop n):=by unfold r8 at*;rw[aVh];omega
def aIg {s:pG}(hs:r8 s) (n:Nat):r8 (s.take n):=by unfold r8 at*;rw[aVx];omega
def kR (k:Int):Int:=if k=4 then 0 else k
def aIh {α:Type}{l:List α}{a n:Nat}:qV l (a:Int) ((a:Int)+(n:Int))=(l.drop a).take n:=by
  unfold qV;rw[aVN];congr 1;omega
def aPM {s:pG}(hs:r8 s) {p:Nat}(hp:p≤s.length):rE (SL s) (p:Int)=some ((p+wA (s.drop p):Nat):Int):=by
  have hs':=hs;unfold r8 at hs'
  have h:=XS (f:=SL s) (l:=s) (fun b=>wQ b) (fun i h=>by
    unfold SL;rw[aU8 (fun _=>sN h),aU8 (fun _=>sN h),aU8 (fun _=>sN h),aU8 (fun _=>sN h),aU8 (fun _=>sN h),aU8 (fun _=>sN h),uI h,Bool.true_and,zL h,aU8 (tN pJ)];rfl) (by
    unfold SL;have hF:decide ((s.length:Int)<(s.length:Int))=false:=by simp
    rw[hF];simp only[aW6,show (false==true)=false from rfl,aWx,false_implies,aWQ,aXn]) (s.length-p) p pJ
  rw[h];unfold wA;rw[aVh]
def aPN (l:pG):(yA l).2=0∨(yA l).1.length≤(yA l).2:=by
  unfold yA;split
  · rename_i a c t
    have h1:=Y5 (l:=t.take 2) (k:=4) (ok:=fun n=>decide (n≤127)) (f:=fun n=>tE [n]) (fun n=>by simp [tE]);have h2:=Y5 (l:=t.take 4) (k:=6) (ok:=xJ) (f:=Lib.encodeRune) a9p
    repeat' split
    all_goals first
      |exact .inl rfl
      |exact .inr pL
      | (rcases h1.2 with e|e
         .exact .inl e
         .exact .inr (by rw[e];exact h1.1))
      | (rcases h2.2 with e|e
         .exact .inl e
         .exact .inr (by rw[e];have:=h2.1;omega))
  .exact .inl rfl
def aPO (n:Int) (l:pG):(tZ n l).2=0∨(tZ n l).1.length≤(tZ n l).2:=by
  cases l with
  |nil=>exact .inl rfl
  | cons b t=>
    by_cases h:b=92
    .rw[PI h];exact aPN _
    · by_cases hb:BI n b=true
      .rw[MF h hb];exact .inl rfl
      .rw[PJ h hb];exact .inr pL
def aIi (n:Int): ∀(k:Nat) (l r:pG),xV n k l= .inl r→r.length≤l.length
  |0,_,_,h=>by cases h;simp
  |_+1,[],_,h=>by cases h;simp
  | k+1,b::t,r,h=>by
    rw[xV] at h;split at h
    .cases h
    · rename_i hz
      have hp:=(aPO n (b::t)).resolve_left hz;have hq:=(SX n (b::t)).2;cases hu:xV n k ((b::t).drop (tZ n (b::t)).2) with
      | inl r'=>
        rw[hu] at h;cases h;have:=aIi n k _ r' hu;rw[aVh] at this;rw[aVc];omega
      |inr e=>rw[hu] at h;cases h
def a9x (n:Int) (s:pG):(yK n s).1.length≤s.length:=by
  unfold yK;cases h:xV n s.length s with
  |inl r=>exact aIi n _ _ _ h
  |inr e=>simp
def KA {s:pG}(h:s.length≤4000000000):r8 s:=by unfold r8;omega
def aPP {s:pG}(hsm:s.length≤4000000000) {i:Nat}(hi:i≤s.length):
    OV s (i:Int)=some (kR (tO (s.drop i)).1,(tO (s.drop i)).2.1,((i+(tO (s.drop i)).2.2.1:Nat):Int),((i+(tO (s.drop i)).2.2.2:Nat):Int)):=by
  have hs:=KA hsm;have hgl:=MH (s.drop i).length (s.drop i) (aVp _);rw[aVh] at hgl;unfold OV;rw[PM hs hi,aU7];obtain⟨p,hp⟩: ∃p,i+(G (s.drop i)).1=p:=⟨_,rfl⟩;have hdp:(s.drop i).drop (G (s.drop i)).1=s.drop p:=by rw[aVQ,hp]
  have hpl:p≤s.length:=by omega
  have hspec: ∀k t n,tX (s.drop p)=(k,t,n)→(kR (tO (s.drop i)).1,(tO (s.drop i)).2.1,((i+(tO (s.drop i)).2.2.1:Nat):Int),((i+(tO (s.drop i)).2.2.2:Nat):Int))=(kR k,t,(p:Int),((p+n:Nat):Int)):=by
    intro k t n hk;unfold tO;by_cases hg:(G (s.drop i)).2=true
    · rw[aU8 hg,hdp,hk]
      dsimp only;rw[←aVS,hp]
    · rw[aVa hg]
      obtain⟨u,hu⟩:=T0 _ (s.drop i) (aVp _) (by simpa using hg);rw[hdp] at hu;rw[hu,aIe] at hk;cases hk;dsimp only;rw[hp];rfl
  rw[hp];by_cases hend:p=s.length
  · have hnil:s.drop p=[]:=by rw[hend,aVR]
    rw[aU8 (by rw[hend];simp),hspec 4 [] 0 (by rw[hnil];rfl)];rfl
  · have hlt:p<s.length:=by omega
    have hd:=aVA hlt;rw[aVa pM,aU8 (sN hlt),zL hlt,w4 (n:=123) 123 rfl,w4 (n:=125) 125 rfl,w4 (n:=34) 34 rfl];by_cases h1:s[p]=123∨s[p]=125
    · have hz:qV s (p:Int) ((p:Int)+1)=[s[p]]:=aH2 hlt
      rw[aU8 (by simpa using h1),aU8 (tN pJ),aU8 ⟨pJ,pJ,pJ⟩,aU8 (tN pJ),hz,hspec 3 [s[p]] 1 (by rw[hd];exact FT h1)];rfl
    · rw[aVa (by simpa using h1)]
      by_cases h2:s[p]=34
      · have hct:qV s ((p:Int)+1) (s.length:Int)=s.drop (p+1):=by
          rw[show ((p:Int)+1)=((p+1:Nat):Int) by omega,GT]
        have hA:tX (s.drop p)=x9 (s.drop (p+1)):=by rw[hd];exact DM h1 h2
        rw[aU8 (by simpa using h2),aU8 (tN pJ),aU8 ⟨pJ,pJ,aVW _⟩,hct,show ((34:Int))=((34:UInt8).toNat:Int) from rfl,aHT pK pK _ _ (aIf hs _),aU7];unfold x9 at hA;cases he:sU 34 (s.drop (p+1)) with
        | none=>
          rw[he] at hA;rw[aU8 pK,hspec 0 [] 0 hA];rfl
        | some k=>
          rw[he] at hA;dsimp only at hA;have hk:=PH _ _ _ (aVp _) he;rw[aVh] at hk
          have hcm:qV s ((p:Int)+1) ((p:Int)+1+(k:Int))=(s.drop (p+1)).take k:=by
            rw[show ((p:Int)+1)=((p+1:Nat):Int) by omega,aIh]
          have hft:r8 ((s.drop (p+1)).take k):=aIg (aIf hs _) _;show (if decide ((k:Int)<0)=true then _ else if qJ ((p:Int)+1) then if qJ ((p:Int)+1) then if qJ ((p:Int)+1+(k:Int)) then if 0≤(p:Int)+1∧(p:Int)+1≤(p:Int)+1+(k:Int)∧(p:Int)+1+(k:Int)≤(s.length:Int) then(SJ 3 (qV s ((p:Int)+1) ((p:Int)+1+(k:Int)))).bind _ else _ else _ else _ else _)=_;rw[aVa pL,aU8 (tN pJ),aU8 (tN pJ),aU8 (by unfold qJ;omega),aU8 ⟨pJ,pJ,pJ⟩,hcm,aPy pK pK hft,aU7];generalize hu:yK 3 ((s.drop (p+1)).take k)=u at hA|-
          have hul:r8 u.1:=by
            have:=a9x 3 ((s.drop (p+1)).take k);rw[hu,aVx,aVh] at this;unfold r8;omega
          obtain⟨ht1,ht2⟩:=PD u.1 hul;rw[aU8 (fun _=>by rw[ht1];rfl),ht2];by_cases hb:u.2.2≠0∨tG u.1=false
          · rw[aU8 hb] at hA
            rw[aU8 (by
              rcases hb with hb|hb
              .simp [hb]
              .simp [hb]),hspec 0 [] 0 hA]
            rfl
          · rw[aVa hb] at hA
            have hb1:u.2.2=0:=by
              by_cases h:u.2.2=0
              .exact h
              .exact absurd (.inl h) hb
            have hb2:tG u.1=true:=by
              cases h:tG u.1 with
              |true=>rfl
              |false=>exact absurd (.inr h) hb
            rw[aVa (by simp [hb1,hb2])];show (if qJ ((p:Int)+(k:Int)) then if qJ ((p:Int)+(k:Int)+2) then _ else _ else _)=_;rw[aU8 (by unfold qJ;omega),aU8 (by unfold qJ;omega),hspec 1 u.1 (k+2) hA];show some ((1:Int),u.1,(p:Int),(p:Int)+(k:Int)+2)=some (kR 1,u.1,(p:Int),((p+(k+2):Nat):Int));rw[show (p:Int)+(k:Int)+2=((p+(k+2):Nat):Int) by omega];rfl
      · rw[aVa (by simpa using h2)]
        show (if yB (s[p].toNat:Int)=true then _ else _)=_;by_cases h3:yB (s[p].toNat:Int)=true
        · have hw:=a9w (s.drop p)
          rw[aVh] at hw;rw[aU8 h3,aPM hs hpl];unfold sB;rw[aU7,aU8 ⟨pJ,pJ,pJ⟩,hspec 2 ((s.drop p).take (wA (s.drop p))) (wA (s.drop p)) (by rw[hd];exact DN h1 h2 h3)];rw[show ((p+wA (s.drop p):Nat):Int)=(p:Int)+(wA (s.drop p):Int) by omega,aIh];rfl
        · rw[aVa h3,hspec 0 [] 0 (by rw[hd];exact K9 h1 h2 h3)]
          rfl
def T1 (c:Int):Bool:=(((decide ((127:Int)<c))||(((((!(((decide ((97:Int)<=(IntKind.wrap .u8 c)))&&(decide ((IntKind.wrap .u8 c)<=(122:Int))))||((decide ((65:Int)<=(IntKind.wrap .u8 c)))&&(decide ((IntKind.wrap .u8 c)<=(90:Int))))))&&((decide (c<(48:Int)))||(decide ((57:Int)<c))))&&(!decide (c=(45:Int))))&&(!decide (c=(95:Int))))&&(!decide (c=(46:Int)))))==true)
def aPQ (b:UInt8):T1 b.toNat= !wQ b:=by
 have hb:=b.toNat_lt;unfold T1 wQ SZ yB;rw[show IntKind.wrap .u8 (b.toNat:Int)=(b.toNat:Int) by rw[aWv];omega];generalize (b.toNat:Int)=c at*;rw[aWk];simp;omega
def aPR (s:pG):LT s=some (FS (s.findIdx? fun b=> !wQ b)):=by
 have h:=aDJ (f:=RW s true) (s:=s) (fun c=>T1 c) (fun k=>(k:Int)) (fun c h=>by unfold T1;rw[show decide ((127:Int)<c)=true by simp;omega];rfl) (fun i h=>by
  unfold RW;rw[aU8 (by simpa using h),aU8 (by simpa using h),aU8 (by simpa using h)];rfl) (by
  unfold RW;rw[aVa pL])
 unfold LT OI;rw[h,GS,aU7];congr 1;rw[show (fun b:UInt8=>T1 b.toNat)=fun b=> !wQ b from funext aPQ];cases s.findIdx? fun b=> !wQ b<;>rfl
def aPS {t:pG}(hsm:t.length<=4000000000) (b:UInt8) (p:Nat) (hp:p<=4000000000):IG (b::t) (p:Int)=some ((x9 t).1,(x9 t).2.1,((p+(x9 t).2.2:Nat):Int)):=by
 have hs:=KA hsm;have hct:qV (b::t) 1 ((b::t).length:Int)=t:=by
  rw[show ((1:Int))=((1:Nat):Int) from rfl,GT];rfl
 unfold IG;rw[aU8 ⟨pK,by simp only[aVd];omega,aVW _⟩,hct,aPl,show ((34:Int))=((34:UInt8).toNat:Int) from rfl,aHT pK pK _ _ hs,aU7];unfold x9;cases he:sU 34 t with
 |none=>
  rw[aU8 pK];rfl
 |some k=>
  have hk:=PH _ _ _ (aVp _) he;have hcm:qV (b::t) 1 ((k:Int)+1)=t.take k:=by
   unfold qV;rw[show ((k:Int)+1).toNat- (1:Int).toNat=k by omega];rfl
  have hft:r8 (t.take k):=aIg hs _;show (if decide ((k:Int)<0)=true then _ else if qJ ((k:Int)+1) then if 0<=(1:Int)/\(1:Int)<=(k:Int)+1/\(k:Int)+1<=((b::t).length:Int) then(GR 3 (qV (b::t) 1 ((k:Int)+1))).bind _ else _ else _)=_;rw[aVa pL,aU8 (tN pJ),aU8 ⟨pK,pJ,by simp only[aVd];omega⟩,hcm,aPz pK pK hft,aU7];dsimp only;generalize hu:yK 3 (t.take k)=u;have hul:r8 u.1:=by
   have:=a9x 3 (t.take k);rw[hu,aVx] at this;unfold r8;omega
  have ht1:=PE u.1 hul;rw[aU8 (fun _=>by rw[ht1];rfl)];show (if (!decide (u.2.2=0)|| !tG u.1)=true then _ else _)=_
  by_cases hb:u.2.2≠0\/tG u.1=false
  .rw[aU8 hb,aU8 (by
    rcases hb with hb|hb
    .simp [hb]
    .simp [hb])]
   rfl
  .have hb1:u.2.2=0:=by
    by_cases h:u.2.2=0
    .exact h
    .exact absurd (.inl h) hb
   have hb2:tG u.1=true:=by
    cases h:tG u.1 with
    |true=>rfl
    |false=>exact absurd (.inr h) hb
   rw[aVa hb,aVa (by simp [hb1,hb2])];show (if qJ ((p:Int)+(k:Int)) then if qJ ((p:Int)+(k:Int)+2) then _ else _ else _)=_;rw[aU8 (by unfold qJ;omega),aU8 (by unfold qJ;omega)];show some ((1:Int),u.1,(p:Int)+(k:Int)+2)=some ((1:Int),u.1,((p+(k+2):Nat):Int));rw[show (p:Int)+(k:Int)+2=((p+(k+2):Nat):Int) by omega]
def a9y {s:pG}(hsm:s.length<=4000000000) {i:Nat}(hi:i<=s.length):
  CS (s,((i:Int),()))=some ((tO (s.drop i)).1,(tO (s.drop i)).2.1,((i+(tO (s.drop i)).2.2.1:Nat):Int),((i+(tO (s.drop i)).2.2.2:Nat):Int),((i+(tO (s.drop i)).2.2.2:Nat):Int)):=by
 have hs:=KA hsm;have hgl:=MH (s.drop i).length (s.drop i) (aVp _);rw[aVh] at hgl;unfold CS;rw[aPI hs hi,aU7];dsimp only;obtain⟨p,hp⟩: ∃p,i+(G (s.drop i)).1=p:=⟨_,rfl⟩;have hdp:(s.drop i).drop (G (s.drop i)).1=s.drop p:=by rw[aVQ,hp]
 have hpl:p<=s.length:=by omega
 rw[hp];by_cases hg:(G (s.drop i)).2=true
 .rw[aVa (by rw[hg];decide)];have hspec: ∀k t n,tX (s.drop p)=(k,t,n)->((tO (s.drop i)).1,(tO (s.drop i)).2.1,((i+(tO (s.drop i)).2.2.1:Nat):Int),((i+(tO (s.drop i)).2.2.2:Nat):Int),((i+(tO (s.drop i)).2.2.2:Nat):Int))=(k,t,(p:Int),((p+n:Nat):Int),((p+n:Nat):Int)):=by
   intro k t n hk;unfold tO;rw[aU8 hg,hdp,hk];dsimp only;rw[<-aVS,hp]
  by_cases hend:p=s.length
  .have hnil:s.drop p=[]:=by rw[hend,aVR]
   rw[aU8 (by rw[hend];simp),hspec 4 [] 0 (by rw[hnil];rfl)];rfl
  .have hlt:p<s.length:=by omega
   have hd:=aVA hlt;have hdl:(s.drop p).length=s.length-p:=aVh;have hb:r7 (s.drop p) 0=(s[p].toNat:Int):=by
    rw[hd];exact zL (i:=0) (by simp only[aVd];omega)
   rw[aVa pM,GT,aU8 ⟨pJ,pJ,aVW _⟩,aU8 ⟨aVW _,pJ⟩,hb,w4 (n:=123) 123 rfl,w4 (n:=125) 125 rfl,w4 (n:=34) 34 rfl];by_cases h1:s[p]=123\/s[p]=125
   .have hz:qV (s.drop p) 0 1=[s[p]]:=by rw[hd];rfl
    rw[aU8 (by simpa using h1),aU8 ⟨aVW _,pK,pJ⟩,aU8 (tN pJ),hz,hspec 3 [s[p]] 1 (by rw[hd];exact FT h1)];rfl
   .rw[aVa (by simpa using h1)];by_cases h2:s[p]=34
    .have hA:tX (s.drop p)=x9 (s.drop (p+1)):=by rw[hd];exact DM h1 h2
     rw[aU8 (by simpa using h2)];have hq:=aPS (t:=s.drop (p+1)) (by rw[aVh];omega) s[p] p pJ;rw[<-hd] at hq;rw[hq,aU7,hspec (x9 (s.drop (p+1))).1 (x9 (s.drop (p+1))).2.1 (x9 (s.drop (p+1))).2.2 hA]
    .rw[aVa (by simpa using h2)];show (if yB (s[p].toNat:Int)=true then _ else _)=_;by_cases h3:yB (s[p].toNat:Int)=true
     .have hw:=a9w (s.drop p);rw[hdl] at hw;rw[aU8 h3,aPR,aU7,hspec 2 ((s.drop p).take (wA (s.drop p))) (wA (s.drop p)) (by rw[hd];exact DN h1 h2 h3)];have hx:(if decide (FS ((s.drop p).findIdx? fun b=> !wQ b)<0)=true then some ((s.drop p).length:Int) else some (FS ((s.drop p).findIdx? fun b=> !wQ b)))=some (wA (s.drop p):Int):=by
       unfold wA;cases(s.drop p).findIdx? fun b=> !wQ b with
       |none=>rw[aU8 pK];rfl
       |some k=>rw[aVa (by show¬decide ((k:Int)<0)=true;simp)];rfl
      rw[hx];unfold sB;rw[aU7,aU8 ⟨aVW _,pJ,pJ⟩,aU8 (by unfold qJ;omega),XT];rfl
     .rw[aVa h3,hspec 0 [] 0 (by rw[hd];exact K9 h1 h2 h3)];rfl
 .have hg':(G (s.drop i)).2=false:=by simpa using hg
  rw[aU8 (by rw[hg'];rfl)];unfold tO;rw[aVa hg];dsimp only;rw[hp]
def kS (s:pG) (P:Nat):Int:=(tO (s.drop P)).1
def xS (s:pG) (P:Nat):pG:=(tO (s.drop P)).2.1
def fS (s:pG) (P:Nat):Nat:=P+(tO (s.drop P)).2.2.1
def nS (s:pG) (P:Nat):Nat:=P+(tO (s.drop P)).2.2.2
theorem tC {s:pG}{P:Nat}(h:P<=s.length):P<=nS s P/\nS s P<=s.length:=by
 have:=aPL (s.drop P);rw[aVh] at this;unfold nS;omega
theorem vS {p:Prop}{α:Type}{v:α}:p->(some v).isSome=true:=fun _=>rfl
abbrev C4:=pG×(pH×(List s7×(List rZ×Unit)))
abbrev R8:=Int×Int×pG×Int×Int×Int×Int×Int
def uT (s:pG) (P:Nat) (a:Int):R8:=((nS s P:Int),kS s P,xS s P,(fS s P:Int),(nS s P:Int),a,0,(P:Int))
section
variable {s:pG}(hsm:s.length<=4000000000) {P:Nat}(hP:P<=s.length) {c:C4}{a e en at0 f t:Int}{k:Int}{x:pG}{ends:pP}{ids:pN}
include hsm hP
theorem T2:tP (s,(((P:Nat):Int),())) (k,(x,(f,(t,())))) a 0 c (ends,(en,())) ids=some ((nS s P:Int),kS s P,xS s P,(fS s P:Int),(nS s P:Int),t):=by
 unfold tP;dsimp only;rw[aU8 pK,a9y hsm hP];rfl
omit hsm hP in
theorem T3 (he:e≠0):tP (s,(at0,())) (k,(x,(f,(t,())))) a e c (ends,(en,())) ids=some (at0,k,x,f,t,en):=by
 unfold tP;dsimp only;rw[aVa (by simpa using he)]
omit hsm hP in
theorem YB {r1:pG×(Int×Unit)}{code:Int}{r6:pP×(Int×Unit)}:vH r1 (k,(x,(f,(t,())))) a 0 c r6 code ids=(f,code):=by
 unfold vH;rw[aU8 pK]
omit hsm hP in
theorem aPT {r1:pG×(Int×Unit)}{code:Int}{r6:pP×(Int×Unit)}(he:e≠0):vH r1 (k,(x,(f,(t,())))) a e c r6 code ids=(a,e):=by
 unfold vH;rw[aVa (by simpa using he)]
omit hsm hP in
theorem DO {c':C4}{code:Int}(hc:code≠0):(sH (vH (s,(at0,())) (k,(x,(f,(t,())))) a 0 c (ends,(en,())) code ids) fun r=>
  (tP (s,(at0,())) (k,(x,(f,(t,())))) r.1 r.2 c' (ends,(en,())) ids).bind fun r'=>some ((r'.1,r'.2.1,r'.2.2.1,r'.2.2.2.1,r'.2.2.2.2.1,r.1,r.2,r'.2.2.2.2.2):R8))=some (at0,k,x,f,t,f,code,en):=by
 unfold sH;rw[YB];dsimp only;rw[T3 hc];rfl
omit hsm hP in
theorem MI {c':C4}{code:Int}(he:e≠0):(sH (vH (s,(at0,())) (k,(x,(f,(t,())))) a e c (ends,(en,())) code ids) fun r=>
  (tP (s,(at0,())) (k,(x,(f,(t,())))) r.1 r.2 c' (ends,(en,())) ids).bind fun r'=>some ((r'.1,r'.2.1,r'.2.2.1,r'.2.2.2.1,r'.2.2.2.2.1,r.1,r.2,r'.2.2.2.2.2):R8))=some (at0,k,x,f,t,a,e,en):=by
 unfold sH;rw[aPT he];dsimp only;rw[T3 he];rfl
theorem MJ {c':C4}:((tP (s,(((P:Nat):Int),())) (k,(x,(f,(((P:Nat):Int),())))) a 0 c' (ends,(en,())) ids).bind fun r'=>some ((r'.1,r'.2.1,r'.2.2.1,r'.2.2.2.1,r'.2.2.2.2.1,a,0,r'.2.2.2.2.2):R8))=some (uT s P a):=by
 rw[T2 hsm hP];rfl
omit hsm hP in
theorem YC {c':C4}(he:e≠0):((tP (s,(at0,())) (k,(x,(f,(t,())))) a e c' (ends,(en,())) ids).bind fun r'=>some ((r'.1,r'.2.1,r'.2.2.1,r'.2.2.2.1,r'.2.2.2.2.1,a,e,r'.2.2.2.2.2):R8))=some (at0,k,x,f,t,a,e,en):=by
 rw[T3 he];rfl
def uU (bad dup much:Bool):Int:=if bad=true then 3 else if dup=true then 9 else if much=true then 6 else 0
def vA (s:pG) (P:Nat) (a at0 k:Int) (x:pG) (f t en:Int) (code:Int):R8:=if code=0 then uT s P a else(at0,k,x,f,t,f,code,en)
theorem T4 {kind:Int}{text:pG}:z8 (s,(((P:Nat):Int),())) (k,(x,(f,(((P:Nat):Int),())))) a 0 c (ends,(en,())) kind text ids=some (vA s P a P k x f P en (if k=kind/\x=text then 0 else 3)):=by
 unfold z8 vA;dsimp only;by_cases h:k=kind/\x=text
 .rw[aVa (by simp [h.1,h.2]),MJ hsm hP,aU8 h,aU8 rfl]
 .rw[aU8 (by simp only[decide_true,Bool.true_and,aVG,aWG,aVO];exact Decidable.not_and_iff_or_not.1 h),DO pK,aVa h,aVa pK]
omit hsm hP in
theorem YD {kind:Int}{text:pG}(he:e≠0):z8 (s,(at0,())) (k,(x,(f,(t,())))) a e c (ends,(en,())) kind text ids=some (at0,k,x,f,t,a,e,en):=by
 unfold z8;dsimp only;rw[aU8 (by simp [he]),MI he]
theorem aPU {kind:Int}:B8 (s,(((P:Nat):Int),())) (k,(x,(f,(((P:Nat):Int),())))) a 0 c (ends,(en,())) kind false ids=some (vA s P a P k x f P en (uU (decide (k≠kind)) false false)):=by
 unfold B8 vA uU;dsimp only;by_cases h:k=kind
 .rw[aVa (by simp [h]),aVa pK,aVa pK,MJ hsm hP];simp [h]
 .rw[aU8 (by simp [h]),DO pK];simp [h]
omit hsm hP in
theorem aPV {kind:Int}(he:e≠0):B8 (s,(at0,())) (k,(x,(f,(t,())))) a e c (ends,(en,())) kind false ids=some (at0,k,x,f,t,a,e,en):=by
 unfold B8;dsimp only;by_cases h:k=kind
 .rw[aVa (by simp [h]),aVa pK,aVa pK,YC he]
 .rw[aU8 (by simp [h]),MI he]
theorem aPW {kind:Int}:B9 (s,(((P:Nat):Int),())) (k,(x,(f,(((P:Nat):Int),())))) a 0 c (ends,(en,())) kind false ids=some (vA s P a P k x f P en (uU (decide (k≠kind)|| !uM x) false false)):=by
 unfold B9 vA uU;dsimp only;rw[a9f,aU8 vS];by_cases h:k=kind/\uM x=true
 .rw[aVa (by simp [h.1,h.2,val]),aVa pK,aVa pK,MJ hsm hP];simp [h.1,h.2]
 .have hb:(!decide (k=kind)|| !val (some (uM x)))=true:=by
   by_cases h1:k=kind
   .have h2:uM x=false:=by cases h2:uM x with|true=>exact absurd ⟨h1,h2⟩ h|false=>rfl
    simp [h2,val]
   .simp [h1]
  have hb2:(decide (k≠kind)|| !uM x)=true:=by simpa[val] using hb
  rw[aU8 hb,DO pK,hb2];simp
omit hsm hP in
theorem aPX {kind:Int}(he:e≠0):B9 (s,(at0,())) (k,(x,(f,(t,())))) a e c (ends,(en,())) kind false ids=some (at0,k,x,f,t,a,e,en):=by
 unfold B9;dsimp only;rw[a9f,aU8 vS];by_cases h:(!decide (k=kind)|| !val (some (uM x)))=true
 .rw[aU8 h,MI he]
 .rw[aVa h,aVa pK,aVa pK,YC he]
theorem aPY {kind:Int}:BA (s,(((P:Nat):Int),())) (k,(x,(f,(((P:Nat):Int),())))) a 0 c (ends,(en,())) kind false ids=some (vA s P a P k x f P en (uU (decide (k≠kind)|| !decide (0<=uJ x)) false false)):=by
 unfold BA vA uU;dsimp only;rw[(XR x).1,aU8 vS];have hb2:(!decide (k=kind)|| !val (some (decide (0<=uJ x))))=(decide (k≠kind)|| !decide (0<=uJ x)):=by simp [val]
 rw[hb2];by_cases h:(decide (k≠kind)|| !decide (0<=uJ x))=true
 .rw[aU8 h,DO pK,aU8 h,aVa pK]
 .rw[aVa h,aVa pK,aVa pK,MJ hsm hP,aVa h];simp
omit hsm hP in
theorem aPZ {kind:Int}(he:e≠0):BA (s,(at0,())) (k,(x,(f,(t,())))) a e c (ends,(en,())) kind false ids=some (at0,k,x,f,t,a,e,en):=by
 unfold BA;dsimp only;rw[(XR x).1,aU8 vS];by_cases h:(!decide (k=kind)|| !val (some (decide (0<=uJ x))))=true
 .rw[aU8 h,MI he]
 .rw[aVa h,aVa pK,aVa pK,YC he]
end
theorem AJ {b:Bool}{d m:Bool}(h:b=true):uU b d m=3:=by unfold uU;rw[aU8 h]
theorem PN {b:Bool}{d m:Bool}(h: ¬b=true) (h2:d=true):uU b d m=9:=by unfold uU;rw[aVa h,aU8 h2]
theorem PO {b:Bool}{d m:Bool}(h: ¬b=true) (h2: ¬d=true) (h3:m=true):uU b d m=6:=by unfold uU;rw[aVa h,aVa h2,aU8 h3]
theorem EL {b:Bool}{d m:Bool}(h: ¬b=true) (h2: ¬d=true) (h3: ¬m=true):uU b d m=0:=by unfold uU;rw[aVa h,aVa h2,aVa h3]
section
variable {s:pG}(hsm:s.length<=4000000000) {P:Nat}(hP:P<=s.length) {c:C4}{a e en at0 f t:Int}{k:Int}{x:pG}{ends:pP}{ids:pN}
 {b9 b10 b11:pG}{b12 b18:pH}{b13:Int×(List s7×Unit)}{b14:Bool}{b21:pN}
include hsm hP
theorem aP0 {kind:Int}{much:Bool}(hfl:r8 b13.2.1):CT (s,(((P:Nat):Int),())) (k,(x,(f,(((P:Nat):Int),())))) a 0 c (ends,(en,())) kind much ids b9 b10 b11 b12 b13 b14 b18 b21=
  some (vA s P a P k x f P en (uU (decide (k≠kind)|| !sS x) (b13.2.1.any fun y=>decide (y.1=x)) much)):=by
 unfold CT OQ vA;dsimp only;rw[XQ,aU8 vS];have hb2:(!decide (k=kind)|| !val (some (sS x)))=(decide (k≠kind)|| !sS x):=by simp [val]
 rw[hb2];by_cases h:(decide (k≠kind)|| !sS x)=true
 .rw[aU8 h,DO pK,AJ h,aVa pK]
 .rw[aVa h,aOW _ _ hfl,aU7,aU7,aHz];by_cases h2:(b13.2.1.any fun y=>decide (y.1=x))=true
  .rw[aU8 h2,DO pK,PN h h2,aVa pK]
  .rw[aVa h2];by_cases h3:much=true
   .rw[aU8 h3,DO pK,PO h h2 h3,aVa pK]
   .rw[aVa h3,MJ hsm hP,EL h h2 h3,aU8 rfl]
theorem aP1 {kind:Int}{much:Bool}(hfl:r8 b18):CV (s,(((P:Nat):Int),())) (k,(x,(f,(((P:Nat):Int),())))) a 0 c (ends,(en,())) kind much ids b9 b10 b11 b12 b13 b14 b18 b21=
  some (vA s P a P k x f P en (uU (decide (k≠kind)|| !sS x) (b18.any fun y=>decide (y=x)) much)):=by
 unfold CV OO vA;dsimp only;rw[XQ,aU8 vS];have hb2:(!decide (k=kind)|| !val (some (sS x)))=(decide (k≠kind)|| !sS x):=by simp [val]
 rw[hb2];by_cases h:(decide (k≠kind)|| !sS x)=true
 .rw[aU8 h,DO pK,AJ h,aVa pK]
 .rw[aVa h,aOU _ _ hfl,aU7,aU7];by_cases h2:(b18.any fun y=>decide (y=x))=true
  .rw[aU8 h2,DO pK,PN h h2,aVa pK]
  .rw[aVa h2];by_cases h3:much=true
   .rw[aU8 h3,DO pK,PO h h2 h3,aVa pK]
   .rw[aVa h3,MJ hsm hP,EL h h2 h3,aU8 rfl]
def FU (x:pG):Bool:= !decide (x=[])&&decide ((x.length:Int)<=200)
theorem aP2 {kind:Int}{much:Bool}:BD (s,(((P:Nat):Int),())) (k,(x,(f,(((P:Nat):Int),())))) a 0 c (ends,(en,())) kind much ids=
  some (vA s P a P k x f P en (uU (decide (k≠kind)|| !FU x) (sR .str .bool ids x) much)):=by
 unfold BD vA;dsimp only;have hb2:(!decide (k=kind)|| !(!decide (x=[])&&decide ((x.length:Int)<=200)))=(decide (k≠kind)|| !FU x):=by simp [FU]
 rw[hb2];by_cases h:(decide (k≠kind)|| !FU x)=true
 .rw[aU8 h,DO pK,AJ h,aVa pK]
 .rw[aVa h];by_cases h2:sR .str .bool ids x=true
  .rw[aU8 h2,DO pK,PN h h2,aVa pK]
  .rw[aVa h2];by_cases h3:much=true
   .rw[aU8 h3,DO pK,PO h h2 h3,aVa pK]
   .rw[aVa h3,MJ hsm hP,EL h h2 h3,aU8 rfl]
omit hsm hP in
theorem aP3 {kind:Int}{much:Bool}(he:e≠0):BD (s,(at0,())) (k,(x,(f,(t,())))) a e c (ends,(en,())) kind much ids=some (at0,k,x,f,t,a,e,en):=by
 unfold BD;dsimp only;by_cases h:(!decide (k=kind)|| !(!decide (x=[])&&decide ((x.length:Int)<=200)))=true
 .rw[aU8 h,MI he]
 .rw[aVa h];by_cases h2:sR .str .bool ids x=true
  .rw[aU8 h2,MI he]
  .rw[aVa h2];by_cases h3:much=true
   .rw[aU8 h3,MI he]
   .rw[aVa h3,YC he]
theorem a9z:B7 (s,(((P:Nat):Int),())) (k,(x,(f,(((P:Nat):Int),())))) a 0 c (ends,(en,())) b9 b10 b11 b12 b13 b14 ids b18 b21=
  some (vA s P a P k x f P en (if sR .str .bool b21 x=true then 9 else 0)):=by
 unfold B7 vA;dsimp only;by_cases h:sR .str .bool b21 x=true
 .rw[aU8 h,aU8 h,aVa pK];unfold sH sB;rw[YB,aU7];dsimp only;rw[T3 pK];rfl
 .rw[aVa h,aVa h,aU8 rfl];unfold sB;rw[aU7];dsimp only;rw[T2 hsm hP];rfl
theorem YE:zA (s,(((P:Nat):Int),())) (k,(x,(f,(((P:Nat):Int),())))) a 0 c (ends,(en,())) ids=some (vA s P a P k x f P en (uU (decide (k≠1)) false false)):=by
 unfold zA;rw[aPU hsm hP];rfl
omit hsm hP in
theorem YF (he:e≠0):zA (s,(at0,())) (k,(x,(f,(t,())))) a e c (ends,(en,())) ids=some (at0,k,x,f,t,a,e,en):=by
 unfold zA;rw[aPV he];rfl
end
def ext {V:Type}(r:R8) (v:V):Int×Int×pG×Int×Int×Int×Int×Int×V:=(r.1,r.2.1,r.2.2.1,r.2.2.2.1,r.2.2.2.2.1,r.2.2.2.2.2.1,r.2.2.2.2.2.2.1,r.2.2.2.2.2.2.2,v)
section
variable {s:pG}(hsm:s.length<=4000000000) {P:Nat}(hP:P<=s.length) {c:C4}{a e en at0 f t:Int}{k:Int}{x:pG}{ends:pP}{ids:pN}
 {b9 b10 b11:pG}{b12 b18:pH}{b13:Int×(List s7×Unit)}{b14:Bool}{b21:pN}
include hsm hP
theorem aP4 (hl:b12.length<=1000) (h20:b12.length≠20):zP (s,(((P:Nat):Int),())) (k,(x,(f,(((P:Nat):Int),())))) a 0 c (ends,(en,())) b9 b10 b11 b12 b13 b14 ids b18 b21=
  some (ext (vA s (nS s P) a (nS s P) (kS s P) (xS s P) (fS s P) (nS s P) P (uU (decide (kS s P≠1)) false false)) (b12++[xS s P])):=by
 unfold zP;dsimp only;rw[aVa pM];unfold sB;rw[aU7];dsimp only;rw[T2 hsm hP,aU7];dsimp only;rw[YE hsm (tC hP).2,aU7,aU8 pM];rfl
omit hsm hP in
theorem aP5 (h20:b12.length=20): ∃y,zP (s,(at0,())) (k,(x,(f,(t,())))) a 0 c (ends,(en,())) b9 b10 b11 b12 b13 b14 ids b18 b21=some (ext (at0,k,x,f,t,f,6,en) (b12++[y])):=by
 refine⟨x,?_⟩;unfold zP;dsimp only;rw[aU8 pM];unfold sB sH;rw[YB,aU7];dsimp only;rw[T3 pK,aU7];dsimp only;rw[YF pK,aU7,aU8 pM];rfl
theorem aP6 (hl:b13.2.1.length<=1000): ∃v,BF (s,(((P:Nat):Int),())) (k,(x,(f,(((P:Nat):Int),())))) a 0 c (ends,(en,())) b9 b10 b11 b12 b13 b14 ids b18 b21=
  some (ext (if uU (decide (kS s P≠1)|| !sS (xS s P)) (b13.2.1.any fun y=>decide (y.1=xS s P)) (decide (b13.2.1.length=20))=0 then vA s (nS s (nS s P)) a (nS s (nS s P)) (kS s (nS s P)) (xS s (nS s P)) (fS s (nS s P)) (nS s (nS s P)) (nS s P) (uU (decide (kS s (nS s P)≠1)) false false)
   else((nS s P:Int),kS s P,xS s P,(fS s P:Int),(nS s P:Int),(fS s P:Int),uU (decide (kS s P≠1)|| !sS (xS s P)) (b13.2.1.any fun y=>decide (y.1=xS s P)) (decide (b13.2.1.length=20)),(P:Int))) (BG b13.2.1 (xS s P) v))/\
  (uU (decide (kS s P≠1)|| !sS (xS s P)) (b13.2.1.any fun y=>decide (y.1=xS s P)) (decide (b13.2.1.length=20))=0->v=xS s (nS s P)):=by
 have hfit:r8 b13.2.1:=by unfold r8;omega
 have hQ:=(tC hP).2;have hR:=(tC hQ).2;have hd:decide ((b13.2.1.length:Int)=(20:Int))=decide (b13.2.1.length=20):=by
  rw[aWk];simp;omega
 unfold BF;rw[T2 hsm hP,aU7];dsimp only;rw[hd,aP0 hsm hQ hfit,aU7];generalize uU (decide (kS s P≠1)|| !sS (xS s P)) (b13.2.1.any fun y=>decide (y.1=xS s P)) (decide (b13.2.1.length=20))=code
 unfold vA;by_cases hc:code=0
 .refine⟨xS s (nS s P),?_,fun _=>rfl⟩;rw[aU8 hc,aU8 hc];unfold uT;dsimp only;rw[YE hsm hR,aU7,aHD _ _ _ hfit];rfl
 .refine⟨xS s P,?_,fun h=>absurd h hc⟩;rw[aVa hc,aVa hc];dsimp only;rw[YF hc,aU7,aHD _ _ _ hfit];rfl
theorem aP7: ∃v,BV (s,(((P:Nat):Int),())) (k,(x,(f,(((P:Nat):Int),())))) a 0 c (ends,(en,())) b9 b10 b11 b12 b13 b14 ids b18 b21=
  some (ext (if sR .str .bool b21 x=true then((P:Int),k,x,f,(P:Int),f,9,en) else vA s (nS s P) a (nS s P) (kS s P) (xS s P) (fS s P) (nS s P) P (uU (decide (kS s P≠1)) false false)) v)/\(¬sR .str .bool b21 x=true->v=xS s P):=by
 have hQ:=(tC hP).2;unfold BV;rw[a9z hsm hP,aU7];unfold vA;by_cases h:sR .str .bool b21 x=true
 .refine⟨x,?_,fun h'=>absurd h h'⟩;rw[aU8 h,aVa pK,aU8 h];dsimp only;rw[YF pK,aU7];rfl
 .refine⟨xS s P,?_,fun _=>rfl⟩;rw[aVa h,aU8 rfl,aVa h];unfold uT;dsimp only;rw[YE hsm hQ,aU7];rfl
theorem aP8: ∃v,BW (s,(((P:Nat):Int),())) (k,(x,(f,(((P:Nat):Int),())))) a 0 c (ends,(en,())) b9 b10 b11 b12 b13 b14 ids b18 b21=
  some (ext (if sR .str .bool b21 x=true then((P:Int),k,x,f,(P:Int),f,9,en) else vA s (nS s P) a (nS s P) (kS s P) (xS s P) (fS s P) (nS s P) P (uU (decide (kS s P≠1)) false false)) v)/\(¬sR .str .bool b21 x=true->v=xS s P):=by
 have hQ:=(tC hP).2;unfold BW;rw[a9z hsm hP,aU7];unfold vA;by_cases h:sR .str .bool b21 x=true
 .refine⟨x,?_,fun h'=>absurd h h'⟩;rw[aU8 h,aVa pK,aU8 h];dsimp only;rw[YF pK,aU7];rfl
 .refine⟨xS s P,?_,fun _=>rfl⟩;rw[aVa h,aU8 rfl,aVa h];unfold uT;dsimp only;rw[YE hsm hQ,aU7];rfl
theorem aP9: ∃v,BU (s,(((P:Nat):Int),())) (k,(x,(f,(((P:Nat):Int),())))) a 0 c (ends,(en,())) b9 b10 b11 b12 b13 b14 ids b18 b21=
  some (ext (if sR .str .bool b21 x=true then((P:Int),k,x,f,(P:Int),f,9,en) else vA s (nS s P) a (nS s P) (kS s P) (xS s P) (fS s P) (nS s P) P (uU (decide (kS s P≠2)|| !decide (0<=uJ (xS s P))) false false)) v)/\(¬sR .str .bool b21 x=true->v=max 0 (uJ (xS s P))):=by
 have hQ:=(tC hP).2;unfold BU;rw[a9z hsm hP,aU7];unfold vA;by_cases h:sR .str .bool b21 x=true
 .refine⟨max 0 (uJ x),?_,fun h'=>absurd h h'⟩;rw[aU8 h,aVa pK,aU8 h];dsimp only;rw[aPZ pK,aU7];show (DF xU x).bind _=_;rw[(XR x).2];rfl
 .refine⟨max 0 (uJ (xS s P)),?_,fun _=>rfl⟩;rw[aVa h,aU8 rfl,aVa h];unfold uT;dsimp only;rw[aPY hsm hQ,aU7];show (DF xU (xS s P)).bind _=_;rw[(XR (xS s P)).2];rfl
theorem V8 (hl:b18.length<=1000):AH (s,(((P:Nat):Int),())) (k,(x,(f,(((P:Nat):Int),())))) a 0 c (ends,(en,())) b9 b10 b11 b12 b13 b14 ids b18 b21=
  some (ext (vA s (nS s P) a (nS s P) (kS s P) (xS s P) (fS s P) (nS s P) P (uU (decide (kS s P≠2)|| !sS (xS s P)) (b18.any fun y=>decide (y=xS s P)) (decide (b18.length=20)))) (b18++[xS s P])):=by
 have hfit:r8 b18:=by unfold r8;omega
 have hQ:=(tC hP).2;have hd:decide ((((b18.length):Nat):Int)=(20:Int))=decide (b18.length=20):=by
  rw[aWk];simp;omega
 unfold AH;rw[T2 hsm hP,aU7];dsimp only;rw[hd,aP1 hsm hQ hfit,aU7,aU8 pM];rfl
end
theorem yM {k j:Int}(h0:j≠0) (h4:j≠4):kR k=j↔k=j:=by
 unfold kR;split
 .rename_i h;subst h;constructor
  .intro h;exact absurd h.symm h0
  .intro h;exact absurd h.symm h4
 .rfl
abbrev E7:=Int×Int×Int×Int×pG×Int×Int
def T5 (s:pG) (P:Nat) (bad:Int) (ok:Bool):E7:=
 if ok=true then((nS s P:Int),bad,0,kR (kS s P),xS s P,(fS s P:Int),(nS s P:Int)) else((P:Int),(fS s P:Int),3,kR (kS s P),xS s P,(fS s P:Int),(nS s P:Int))
theorem vJ {s:pG}{P:Nat}{bad:Int}{ok:Bool}(h:ok=true):T5 s P bad ok=((nS s P:Int),bad,0,kR (kS s P),xS s P,(fS s P:Int),(nS s P:Int)):=aU8 h
theorem xN {s:pG}{P:Nat}{bad:Int}{ok:Bool}(h: ¬ok=true):T5 s P bad ok=((P:Int),(fS s P:Int),3,kR (kS s P),xS s P,(fS s P:Int),(nS s P:Int)):=aVa h
section
variable {s:pG}(hsm:s.length<=4000000000) {P:Nat}(hP:P<=s.length) {c:C4}{bad e:Int}{ends:pP}{kind:Int}{text:pG}
include hsm hP
theorem T6:OV s (P:Int)=some (kR (kS s P),xS s P,(fS s P:Int),(nS s P:Int)):=aPP hsm hP
omit hsm hP in
theorem wR {k:Int}{x:pG}{f t:Int}{a:Int}{code:Int}:z7 (s,(a,(bad,(0,(c,(ends,())))))) (k,(x,(f,(t,())))) code=(f,code):=by
 unfold z7;exact aU8 (show decide ((0:Int)=0)=true from rfl)
theorem AK:vY (s,((P:Int),(bad,(0,(c,(ends,())))))) kind text=some (T5 s P bad (decide (kR (kS s P)=kind)&&(decide (text=[])||decide (xS s P=text)))):=by
 unfold vY T5;dsimp only;rw[T6 hsm hP,aU7];dsimp only;rw[aVa (show¬(!decide ((0:Int)=0))=true from by decide)];by_cases h:(decide (kR (kS s P)=kind)&&(decide (text=[])||decide (xS s P=text)))=true
 .rw[aU8 h,aVa];simp only[aVg,aVZ,aVf] at h;simp only[aVZ,aVg,aVG,aVO,not_or,not_and,Decidable.not_not];refine⟨h.1,fun ht=> ?_⟩;rcases h.2 with h2|h2
  .exact absurd h2 ht
  .exact h2
 .rw[aVa h,aU8]
  .unfold sH;rw[wR]
  .simp only[aVg,aVZ,aVf,not_and,not_or] at h;simp only[aVZ,aVg,aVG,aVO];by_cases hk:kR (kS s P)=kind
   .exact .inr (h hk)
   .exact .inl hk
theorem KB (he:e≠0):vY (s,((P:Int),(bad,(e,(c,(ends,())))))) kind text=some ((P:Int),bad,e,kR (kS s P),xS s P,(fS s P:Int),(nS s P:Int)):=by
 unfold vY;dsimp only;rw[T6 hsm hP,aU7];dsimp only;rw[aU8 (by simpa using he)]
theorem AL {j:Int}(h0:j≠0) (h4:j≠4):vY (s,((P:Int),(bad,(0,(c,(ends,())))))) j []=some (T5 s P bad (decide (kS s P=j))):=by
 rw[AK hsm hP];congr 2;rw[aWk];simp [yM h0 h4]
def EM (s:pG) (P:Nat) (bad:Int) (fl:List s7):Int×Int×Int×List s7:=
 if kS s P≠1 then((P:Int),(fS s P:Int),3,fl)
 else if sS (xS s P)=false then((nS s P:Int),(fS s P:Int),3,fl)
 else if (fl.any fun y=>decide (y.1=xS s P))=true then((nS s P:Int),(fS s P:Int),9,fl)
 else if 20<=fl.length then((nS s P:Int),(fS s P:Int),6,fl)
 else if kS s (nS s P)≠1 then((nS s P:Int),(fS s (nS s P):Int),3,BG fl (xS s P) (xS s (nS s P)))
 else((nS s (nS s P):Int),bad,0,BG fl (xS s P) (xS s (nS s P)))
theorem KC:r8 (xS s P):=by
 have h1:=hsm;have:(xS s P).length<=4000000000:=by
  unfold xS tO;split
  .dsimp only;generalize hr:(s.drop P).drop (G (s.drop P)).1=r;have hrl:r.length<=s.length:=by rw[<-hr,aVh,aVh];omega
   unfold tX;split
   .simp
   .rename_i b t;simp only[aVd] at hrl;split
    .simp
    .split
     .unfold x9;cases he:sU 34 t with
      |none=>simp
      |some n=>
       dsimp only;split
       .simp
       .have:=a9x 3 (t.take n);rw[aVx] at this;show (yK 3 (t.take n)).1.length<=_;omega
     .split
      .show ((b::t).take _).length<=_;rw[aVx];simp only[aVd];omega
      .simp
  .simp
 unfold r8;omega
theorem aQa {i:rZ}(hl:i.2.2.2.2.2.2.1.length<=1000):XC (s,((P:Int),(bad,(0,(c,(ends,())))))) i=some (EM s P bad i.2.2.2.2.2.2.1):=by
 have hfit:r8 i.2.2.2.2.2.2.1:=by unfold r8;omega
 have hQ:=(tC hP).2;unfold XC EM;rw[AL hsm hP pK pK,aU7];by_cases h1:kS s P=1
 .rw[vJ (by simpa using h1),aVa (show¬kS s P≠1 from by simpa using h1)];dsimp only;rw[aVa (show¬(!decide ((0:Int)=0))=true from by decide),aOV _ _ hfit,aU7,XP _ (KC hsm hP),aU7];by_cases h2:sS (xS s P)=true
  .rw[aVa (show¬(!sS (xS s P))=true from by simp [h2]),aVa (show¬sS (xS s P)=false from by simp [h2]),aHz];by_cases h3:(i.2.2.2.2.2.2.1.any fun y=>decide (y.1=xS s P))=true
   .rw[aU8 h3,aU8 h3];unfold sH;rw[wR]
   .rw[aVa h3,aVa h3];by_cases h4:20<=i.2.2.2.2.2.2.1.length
    .rw[aU8 (show decide ((20:Int)<=(i.2.2.2.2.2.2.1.length:Int))=true from by simp;omega),aU8 h4];unfold sH;rw[wR]
    .rw[aVa (show¬decide ((20:Int)<=(i.2.2.2.2.2.2.1.length:Int))=true from by simp;omega),aVa h4,AL hsm hQ pK pK,aU7];by_cases h5:kS s (nS s P)=1
     .rw[vJ (by simpa using h5),aVa (show¬kS s (nS s P)≠1 from by simpa using h5)];dsimp only;rw[aHF _ _ _ hfit,aU7]
     .rw[xN (by simpa using h5),aU8 h5];dsimp only;rw[aHF _ _ _ hfit,aU7]
  .have h2':sS (xS s P)=false:=by simpa using h2
   rw[aU8 (by simp [h2']),aU8 h2'];unfold sH;rw[wR]
 .rw[xN (by simpa using h1),aU8 h1];dsimp only;rw[aU8 (show (!decide ((3:Int)=0))=true from by decide)]
def yN (l:pH) (x:pG):Nat:=(l.findIdx? fun y=> !Op.bytesLess y x).getD l.length
def EN (l:pH) (x:pG):pH:=l.take (yN l x)++[x]++l.drop (yN l x)
omit hsm hP in
theorem aQb (l:pH) (x:pG):yN l x<=l.length:=by
 unfold yN;cases h:l.findIdx? fun y=> !Op.bytesLess y x with
 |none=>exact aVp _
 |some k=>exact Nat.le_of_lt (aVM.1 h).1
def EO (s:pG) (P:Nat) (bad:Int) (fl:pH):Int×Int×Int×pH:=
 if kS s P≠2 then((P:Int),(fS s P:Int),3,fl)
 else if sS (xS s P)=false then((nS s P:Int),(fS s P:Int),3,fl)
 else if (fl.any fun y=>decide (y=xS s P))=true then((nS s P:Int),(fS s P:Int),9,fl)
 else if 20<=fl.length then((nS s P:Int),(fS s P:Int),6,fl)
 else((nS s P:Int),bad,0,EN fl (xS s P))
theorem aQc {i:rZ}(hl:i.2.2.2.2.1.length<=1000):XE (s,((P:Int),(bad,(0,(c,(ends,())))))) i=some (EO s P bad i.2.2.2.2.1):=by
 have hfit:r8 i.2.2.2.2.1:=by unfold r8;omega
 unfold XE EO;rw[AL hsm hP pK pK,aU7];by_cases h1:kS s P=2
 .rw[vJ (by simpa using h1),aVa (show¬kS s P≠2 from by simpa using h1)];dsimp only;rw[aVa (show¬(!decide ((0:Int)=0))=true from by decide),XP _ (KC hsm hP),aU7];by_cases h2:sS (xS s P)=true
  .rw[aVa (show¬(!sS (xS s P))=true from by simp [h2]),aVa (show¬sS (xS s P)=false from by simp [h2]),aOT _ _ hfit,aU7];by_cases h3:(i.2.2.2.2.1.any fun y=>decide (y=xS s P))=true
   .rw[aU8 h3,aU8 h3];unfold sH;rw[wR]
   .rw[aVa h3,aVa h3];by_cases h4:20<=i.2.2.2.2.1.length
    .rw[aU8 (show decide ((20:Int)<=(i.2.2.2.2.1.length:Int))=true from by simp;omega),aU8 h4];unfold sH;rw[wR]
    .rw[aVa (show¬decide ((20:Int)<=(i.2.2.2.2.1.length:Int))=true from by simp;omega),aVa h4];have hk:=aQb i.2.2.2.2.1 (xS s P);have h2:=aHE (f:=XD i ((nS s P:Int),bad,0,kR (kS s P),xS s P,(fS s P:Int),(nS s P:Int))) (l:=i.2.2.2.2.1) (fun y=>Op.bytesLess y (xS s P)) (fun j h=>by
      unfold XD;rw[aU8 (fun _=>sN h),z6 (t:= .str) h,uI h,Bool.true_and,aU8 (tN pJ)]) (by
      unfold XD;have hF:decide ((i.2.2.2.2.1.length:Int)<(i.2.2.2.2.1.length:Int))=false:=by simp
      rw[hF,aU8 (fun h=>by simp at h),aW6,aVa pK])
     have hins:(i.2.2.2.2.1.findIdx? fun y=> !Op.bytesLess y (xS s P)).getD i.2.2.2.2.1.length=yN i.2.2.2.2.1 (xS s P):=rfl;rw[hins] at h2;rw[h2];unfold sB;rw[aU7,aU8 ⟨aVW _,pJ,pJ⟩,XT,GT,aU8 pM,aU8 pM,aU8 ⟨pJ,pJ,aVW _⟩,aU8 pM];simp [EN]
  .have h2':sS (xS s P)=false:=by simpa using h2
   rw[aU8 (by simp [h2']),aU8 h2'];unfold sH;rw[wR]
 .rw[xN (by simpa using h1),aU8 h1];dsimp only;rw[aU8 (show (!decide ((3:Int)=0))=true from by decide)]
end
abbrev xW:pG:=[99,111,109,109,101,110,116]
abbrev zE:pG:=[102,105,101,108,100]
abbrev CW:pG:=[102,108,97,103]
abbrev uC:pG:=[115,111,117,114,99,101]
abbrev uD:pG:=[116,97,114,103,101,116]
abbrev uP:pG:=[115,116,97,116,101]
theorem MK {x w:pG}(h:x=w):decide (x=w)=true:=aWh h
theorem zF {x w:pG}(h:x≠w): ¬decide (x=w)=true:=by simp [h]
section
variable {s:pG}(hsm:s.length<=4000000000) {P:Nat}(hP:P<=s.length) {c:C4}{bad f t:Int}{ends:pP}{k:Int}{x:pG}
 {i1 sr tg:pG}{cm fg:pH}{st:Int}{fd:List s7}{d1 d2 d3 hd:Bool}
include hsm hP
theorem a9A (hx:x=xW) (h20:20<=cm.length):BT (s,((P:Int),(bad,(0,(c,(ends,())))))) (i1,(sr,(tg,(cm,(fg,(st,(fd,()))))))) (d1,(d2,(d3,()))) (k,(x,(f,(t,())))) hd=
  some ((P:Int),f,6,sr,tg,cm,fg,st,fd,d1,d2,d3):=by
 unfold BT;dsimp only;rw[aU8 (MK hx),aU8 (show decide ((20:Int)<=(cm.length:Int))=true from by simp;omega)];unfold sH;rw[wR]
theorem T7 (hx:x=xW) (h20: ¬20<=cm.length):BT (s,((P:Int),(bad,(0,(c,(ends,())))))) (i1,(sr,(tg,(cm,(fg,(st,(fd,()))))))) (d1,(d2,(d3,()))) (k,(x,(f,(t,())))) hd=
  some (if kS s P=1 then((nS s P:Int),bad,0,sr,tg,cm++[xS s P],fg,st,fd,d1,d2,d3) else((P:Int),(fS s P:Int),3,sr,tg,cm++[xS s P],fg,st,fd,d1,d2,d3)):=by
 unfold BT;dsimp only;rw[aU8 (MK hx),aVa (show¬decide ((20:Int)<=(cm.length:Int))=true from by simp;omega)];rw[AL hsm hP pK pK,aU7,aU8 pM,aU8 pM];by_cases h1:kS s P=1
 .rw[vJ (by simpa using h1),aU8 h1];rfl
 .rw[xN (by simpa using h1),aVa h1];rfl
theorem T8 (hx:x=zE) (hl:fd.length<=1000):BT (s,((P:Int),(bad,(0,(c,(ends,())))))) (i1,(sr,(tg,(cm,(fg,(st,(fd,()))))))) (d1,(d2,(d3,()))) (k,(x,(f,(t,())))) hd=
  some ((EM s P bad fd).1,(EM s P bad fd).2.1,(EM s P bad fd).2.2.1,sr,tg,cm,fg,st,(EM s P bad fd).2.2.2,d1,d2,d3):=by
 unfold BT;dsimp only;rw[aVa (zF (by rw[hx];decide)),aU8 (MK hx),aQa hsm hP (i:=(i1,(sr,(tg,(cm,(fg,(st,(fd,())))))))) hl,aU7]
theorem a9B (h1:x≠xW) (h2:x≠zE):BT (s,((P:Int),(bad,(0,(c,(ends,())))))) (i1,(sr,(tg,(cm,(fg,(st,(fd,()))))))) (d1,(d2,(d3,()))) (k,(x,(f,(t,())))) true=
  some ((P:Int),f,3,sr,tg,cm,fg,st,fd,d1,d2,d3):=by
 unfold BT;dsimp only;rw[aVa (zF h1),aVa (zF h2),aU8 rfl];unfold sH;rw[wR]
theorem T9 (hx:x=CW) (hl:fg.length<=1000):BT (s,((P:Int),(bad,(0,(c,(ends,())))))) (i1,(sr,(tg,(cm,(fg,(st,(fd,()))))))) (d1,(d2,(d3,()))) (k,(x,(f,(t,())))) false=
  some ((EO s P bad fg).1,(EO s P bad fg).2.1,(EO s P bad fg).2.2.1,sr,tg,cm,(EO s P bad fg).2.2.2,st,fd,d1,d2,d3):=by
 unfold BT;dsimp only;rw[aVa (zF (by rw[hx];decide)),aVa (zF (by rw[hx];decide)),aVa aWZ,aU8 (MK hx),aQc hsm hP (i:=(i1,(sr,(tg,(cm,(fg,(st,(fd,())))))))) hl,aU7]
theorem aQd:(if (decide (x=uC)&&d1)=true then some (decide (x=uC)&&d1) else if (decide (x=uD)&&d2)=true then some (decide (x=uD)&&d2) else some (decide (x=uP)&&d3))=some ((decide (x=uC)&&d1)||(decide (x=uD)&&d2)||(decide (x=uP)&&d3)):=by
 cases(decide (x=uC)&&d1)<;>cases(decide (x=uD)&&d2)<;>rfl
theorem EP (h1:x≠xW) (h2:x≠zE) (h3:x≠CW):BT (s,((P:Int),(bad,(0,(c,(ends,())))))) (i1,(sr,(tg,(cm,(fg,(st,(fd,()))))))) (d1,(d2,(d3,()))) (k,(x,(f,(t,())))) false=
  some (if ((decide (x=uC)&&d1)||(decide (x=uD)&&d2)||(decide (x=uP)&&d3))=true then((P:Int),f,9,sr,tg,cm,fg,st,fd,d1,d2,d3)
   else if x=uC then(if kS s P=1 then((nS s P:Int),bad,0,xS s P,tg,cm,fg,st,fd,true,d2,d3) else((P:Int),(fS s P:Int),3,xS s P,tg,cm,fg,st,fd,true,d2,d3))
   else if x=uD then(if kS s P=1 then((nS s P:Int),bad,0,sr,xS s P,cm,fg,st,fd,d1,true,d3) else((P:Int),(fS s P:Int),3,sr,xS s P,cm,fg,st,fd,d1,true,d3))
   else if x=uP then(if kS s P=2 then(if uJ (xS s P)<0 then((nS s P:Int),(fS s P:Int),3,sr,tg,cm,fg,uJ (xS s P),fd,d1,d2,true) else((nS s P:Int),bad,0,sr,tg,cm,fg,uJ (xS s P),fd,d1,d2,true)) else((P:Int),(fS s P:Int),3,sr,tg,cm,fg,uJ (xS s P),fd,d1,d2,true))
   else((P:Int),f,3,sr,tg,cm,fg,st,fd,d1,d2,d3)):=by
 unfold BT;dsimp only;rw[aVa (zF h1),aVa (zF h2),aVa aWZ,aVa (zF h3)];unfold sB;rw[show (if (decide (x=([115,111,117,114,99,101]:pG))&&d1)=true then some (decide (x=([115,111,117,114,99,101]:pG))&&d1) else if (decide (x=([116,97,114,103,101,116]:pG))&&d2)=true then some (decide (x=([116,97,114,103,101,116]:pG))&&d2) else some (decide (x=([115,116,97,116,101]:pG))&&d3))=some ((decide (x=uC)&&d1)||(decide (x=uD)&&d2)||(decide (x=uP)&&d3)) from aQd hsm hP,aU7]
 by_cases hd:((decide (x=uC)&&d1)||(decide (x=uD)&&d2)||(decide (x=uP)&&d3))=true
 .rw[aU8 hd,aU8 hd];unfold sH;rw[wR]
 .rw[aVa hd,aVa hd];by_cases hs:x=uC
  .rw[aU8 (MK hs),aU8 hs,AL hsm hP pK pK,aU7];by_cases h1:kS s P=1
   .rw[vJ (by simpa using h1),aU8 h1]
   .rw[xN (by simpa using h1),aVa h1]
  .rw[aVa (zF hs),aVa hs];by_cases ht:x=uD
   .rw[aU8 (MK ht),aU8 ht,AL hsm hP pK pK,aU7];by_cases h1:kS s P=1
    .rw[vJ (by simpa using h1),aU8 h1]
    .rw[xN (by simpa using h1),aVa h1]
   .rw[aVa (zF ht),aVa ht];by_cases ha:x=uP
    .rw[aU8 (MK ha),aU8 ha,AL hsm hP pK pK,aU7];by_cases h1:kS s P=2
     .rw[vJ (by simpa using h1),aU8 h1];dsimp only;rw[aHy,aU8 vS];by_cases h6:uJ (xS s P)<0
      .rw[aU8 (show (decide ((0:Int)=0)&&decide (val (some (uJ (xS s P)))<0))=true from aWh (p:=uJ (xS s P)<0) h6),aU8 h6];unfold sH;rw[wR];rfl
      .rw[aVa (show¬(decide ((0:Int)=0)&&decide (val (some (uJ (xS s P)))<0))=true from fun h=>h6 (aVU (p:=uJ (xS s P)<0) h)),aVa h6];rfl
     .rw[xN (by simpa using h1),aVa h1];dsimp only;rw[aHy,aU8 vS,aVa (show¬(decide ((3:Int)=0)&&decide (val (some (uJ (xS s P)))<0))=true from by simp)];rfl
    .rw[aVa (zF ha),aVa ha];unfold sH;rw[wR]
end
section
variable {a b c:pG}{d g:pH}{e:Int×(List s7×Unit)}{en:Bool}{m:pN}
def YG:yF .str .fn (y9 a b c d e en g m) xW=true/\sR .str .fn (y9 a b c d e en g m) xW=some 213:=by
 cases en<;>exact⟨rfl,rfl⟩
def aIj:yF .str .fn (y9 a b c d e en g m) zE=true/\sR .str .fn (y9 a b c d e en g m) zE=some 214:=by
 cases en<;>exact⟨rfl,rfl⟩
def aIk:yF .str .fn (y9 a b c d e true g m) uC=true/\sR .str .fn (y9 a b c d e true g m) uC=some 215:=⟨rfl,rfl⟩
def aIl:yF .str .fn (y9 a b c d e true g m) uD=true/\sR .str .fn (y9 a b c d e true g m) uD=some 216:=⟨rfl,rfl⟩
def aIm:yF .str .fn (y9 a b c d e true g m) uP=true/\sR .str .fn (y9 a b c d e true g m) uP=some 217:=⟨rfl,rfl⟩
def aIn:yF .str .fn (y9 a b c d e true g m) CW=true/\sR .str .fn (y9 a b c d e true g m) CW=some 218:=⟨rfl,rfl⟩
end
end Go.Proofs.YtbbpilohihldiaaGreatDoor
namespace Go.Proofs.YtbbpilohihldiaaGreatDoor
open Vc
theorem FV {v:Ty}(a b:pG) (y:v.den): ∀l:List (pG×v.den),sR .str v (tY .str v a y l) b=if b=a then y else sR .str v l b
 |[]=>by
  show (if decide (b=a)=true then y else v.zero)=if b=a then y else v.zero;by_cases h:b=a<;>simp [h]
 |(x,z)::r=>by
  have ih:=FV a b y r;show sR .str v (if decide (a=x)=true then(a,y)::r else(x,z)::tY .str v a y r) b=if b=a then y else(if decide (b=x)=true then z else sR .str v r b);by_cases h:a=x
  .rw[aU8 (aWh h)];show (if decide (b=a)=true then y else sR .str v r b)=_;by_cases hb:b=a
   .rw[aU8 (aWh hb),aU8 hb]
   .rw[aVa (by simpa using hb),aVa hb,aVa (by rw[<-h];simpa using hb)]
  .rw[aVa (by simpa using h)];show (if decide (b=x)=true then z else sR .str v (tY .str v a y r) b)=_;rw[ih];by_cases hb:b=a
   .rw[aU8 hb,aU8 hb,aVa (by rw[hb];simpa using h)]
   .rw[aVa hb,aVa hb]
section
variable {a b c:pG}{d g:pH}{e:Int×(List s7×Unit)}{en:Bool}{m:pN}{x:pG}
theorem aQe (h1:x≠xW) (h2:x≠zE):yF .str .fn (y9 a b c d e false g m) x=false:=by
 show (if decide (x=xW)=true then true else if decide (x=zE)=true then true else false)=false;rw[aVa (zF h1),aVa (zF h2)]
theorem aQf (h1:x≠xW) (h2:x≠zE) (h3:x≠uC) (h4:x≠uD) (h5:x≠uP) (h6:x≠CW):yF .str .fn (y9 a b c d e true g m) x=false:=by
 show (if decide (x=xW)=true then true else if decide (x=zE)=true then true else if decide (x=uC)=true then true else if decide (x=uD)=true then true else if decide (x=uP)=true then true else if decide (x=CW)=true then true else false)=false;rw[aVa (zF h1),aVa (zF h2),aVa (zF h3),aVa (zF h4),aVa (zF h5),aVa (zF h6)]
end
abbrev KD:=Int×Int×pG×Int×Int×Int×Int×Int×pG×pG×pH×Int×List s7×pH×pN
def tD (r:R8) (sr tg:pG) (cm:pH) (st:Int) (fd:List s7) (l:pH) (m:pN):KD:=
 (r.1,r.2.1,r.2.2.1,r.2.2.2.1,r.2.2.2.2.1,r.2.2.2.2.2.1,r.2.2.2.2.2.2.1,r.2.2.2.2.2.2.2,sr,tg,cm,st,fd,l,m)
section
variable {s:pG}(hsm:s.length<=4000000000) {P:Nat}(hP:P<=s.length) {c:C4}{a en0 at0:Int}{ends:pP}{ids:pN}
 {sr tg:pG}{cm l:pH}{st:Int}{fd:List s7}{m:pN}{hd:Bool}
include hsm hP
omit hsm hP in
theorem KE (hk:kS s P=2):(decide ((0:Int)=0)&&decide (kS s P=2))=true:=by simp [hk]
theorem aQg (hk:kS s P=2) (hx:xS s P=xW) (hl:cm.length<=1000) (h20:cm.length≠20):wY (s,(at0,())) c (ends,(en0,())) hd ids (tD (uT s P a) sr tg cm st fd l m)=
  some (.inl (tD (vA s (nS s (nS s P)) a (nS s (nS s P)) (kS s (nS s P)) (xS s (nS s P)) (fS s (nS s P)) (nS s (nS s P)) (nS s P) (uU (decide (kS s (nS s P)≠1)) false false)) sr tg (cm++[xS s (nS s P)]) st fd l m)):=by
 have hQ:=(tC hP).2;unfold wY tD uT;dsimp only;rw[aU8 (KE hk),hx,aVa (by rw[YG.1];decide)];unfold sH;rw[YG.2];dsimp only;rw[aU8 rfl,aP4 hsm hQ hl h20,aU7];rfl
theorem aQh (hk:kS s P=2) (hx:xS s P=xW) (h20:cm.length=20): ∃y,wY (s,(at0,())) c (ends,(en0,())) hd ids (tD (uT s P a) sr tg cm st fd l m)=
  some (.inl (tD ((nS s P:Int),kS s P,xW,(fS s P:Int),(nS s P:Int),(fS s P:Int),6,(P:Int)) sr tg (cm++[y]) st fd l m)):=by
 have hQ:=(tC hP).2;unfold wY tD uT;dsimp only;rw[aU8 (KE hk),hx,aVa (by rw[YG.1];decide)];unfold sH;rw[YG.2];dsimp only;rw[aU8 rfl];obtain⟨y,hy⟩:=aP5 (c:=(c.1,(c.2.1,(c.2.2.1,(c.2.2.2.1,()))))) (a:=a) (en:=(P:Int)) (at0:=(nS s P:Int)) (f:=(fS s P:Int)) (t:=(nS s P:Int)) (k:=kS s P) (x:=xW) (ends:=ends) (ids:=ids) (b9:=[]) (b10:=sr) (b11:=tg) (b12:=cm) (b18:=l) (b13:=(st,(fd,()))) (b14:=hd) (b21:=m) h20;rw[hy,aU7];exact⟨y,rfl⟩
theorem aQi (hk:kS s P=2) (hx:xS s P=zE) (hl:fd.length<=1000): ∃v,wY (s,(at0,())) c (ends,(en0,())) hd ids (tD (uT s P a) sr tg cm st fd l m)=
  some (.inl (tD (if (uU (decide (kS s (nS s P)≠1)|| !sS (xS s (nS s P))) (fd.any fun y=>decide (y.1=xS s (nS s P))) (decide (fd.length=20)))=0 then vA s (nS s (nS s (nS s P))) a (nS s (nS s (nS s P))) (kS s (nS s (nS s P))) (xS s (nS s (nS s P))) (fS s (nS s (nS s P))) (nS s (nS s (nS s P))) (nS s (nS s P)) (uU (decide (kS s (nS s (nS s P))≠1)) false false)
   else((nS s (nS s P):Int),kS s (nS s P),xS s (nS s P),(fS s (nS s P):Int),(nS s (nS s P):Int),(fS s (nS s P):Int),(uU (decide (kS s (nS s P)≠1)|| !sS (xS s (nS s P))) (fd.any fun y=>decide (y.1=xS s (nS s P))) (decide (fd.length=20))),((nS s P):Int))) sr tg cm st (BG fd (xS s (nS s P)) v) l m))/\
  ((uU (decide (kS s (nS s P)≠1)|| !sS (xS s (nS s P))) (fd.any fun y=>decide (y.1=xS s (nS s P))) (decide (fd.length=20)))=0->v=xS s (nS s (nS s P))):=by
 have hQ:=(tC hP).2;unfold wY tD uT;dsimp only;rw[aU8 (KE hk),hx,aVa (by rw[aIj.1];decide)];unfold sH;rw[aIj.2];dsimp only;rw[aVa pK,aU8 rfl];obtain⟨v,hv,h2⟩:=aP6 hsm hQ (c:=(c.1,(c.2.1,(c.2.2.1,(c.2.2.2.1,()))))) (a:=a) (en:=(P:Int)) (f:=(fS s P:Int)) (k:=kS s P) (x:=zE) (ends:=ends) (ids:=ids) (b9:=[]) (b10:=sr) (b11:=tg) (b12:=cm) (b18:=l) (b13:=(st,(fd,()))) (b14:=hd) (b21:=m) hl;refine⟨v,?_,h2⟩;rw[hv,aU7];rfl
theorem aQj (hk:kS s P=2) (hx:xS s P=uC): ∃v,wY (s,(at0,())) c (ends,(en0,())) true ids (tD (uT s P a) sr tg cm st fd l m)=
  some (.inl (tD (if sR .str .bool m uC=true then(((nS s P):Int),kS s P,uC,(fS s P:Int),((nS s P):Int),(fS s P:Int),9,(P:Int)) else vA s (nS s (nS s P)) a (nS s (nS s P)) (kS s (nS s P)) (xS s (nS s P)) (fS s (nS s P)) (nS s (nS s P)) (nS s P) (uU (decide (kS s (nS s P)≠1)) false false)) v tg cm st fd l (tY .str .bool uC true m)))/\
  (¬sR .str .bool m uC=true->v=xS s (nS s P)):=by
 have hQ:=(tC hP).2;unfold wY tD uT;dsimp only;rw[aU8 (KE hk),hx,aVa (by rw[aIk.1];decide)];unfold sH;rw[aIk.2];dsimp only;rw[aVa pK,aVa pK,aU8 rfl];obtain⟨v,hv,h2⟩:=aP7 hsm hQ (c:=(c.1,(c.2.1,(c.2.2.1,(c.2.2.2.1,()))))) (a:=a) (en:=(P:Int)) (f:=(fS s P:Int)) (k:=kS s P) (x:=uC) (ends:=ends) (ids:=ids) (b9:=[]) (b10:=sr) (b11:=tg) (b12:=cm) (b18:=l) (b13:=(st,(fd,()))) (b14:=true) (b21:=m);refine⟨v,?_,h2⟩;rw[hv,aU7];rfl
theorem aQk (hk:kS s P=2) (hx:xS s P=uD): ∃v,wY (s,(at0,())) c (ends,(en0,())) true ids (tD (uT s P a) sr tg cm st fd l m)=
  some (.inl (tD (if sR .str .bool m uD=true then(((nS s P):Int),kS s P,uD,(fS s P:Int),((nS s P):Int),(fS s P:Int),9,(P:Int)) else vA s (nS s (nS s P)) a (nS s (nS s P)) (kS s (nS s P)) (xS s (nS s P)) (fS s (nS s P)) (nS s (nS s P)) (nS s P) (uU (decide (kS s (nS s P)≠1)) false false)) sr v cm st fd l (tY .str .bool uD true m)))/\
  (¬sR .str .bool m uD=true->v=xS s (nS s P)):=by
 have hQ:=(tC hP).2;unfold wY tD uT;dsimp only;rw[aU8 (KE hk),hx,aVa (by rw[aIl.1];decide)];unfold sH;rw[aIl.2];dsimp only;rw[aVa pK,aVa pK,aVa pK,aU8 rfl];obtain⟨v,hv,h2⟩:=aP8 hsm hQ (c:=(c.1,(c.2.1,(c.2.2.1,(c.2.2.2.1,()))))) (a:=a) (en:=(P:Int)) (f:=(fS s P:Int)) (k:=kS s P) (x:=uD) (ends:=ends) (ids:=ids) (b9:=[]) (b10:=sr) (b11:=tg) (b12:=cm) (b18:=l) (b13:=(st,(fd,()))) (b14:=true) (b21:=m);refine⟨v,?_,h2⟩;rw[hv,aU7];rfl
theorem aQl (hk:kS s P=2) (hx:xS s P=uP): ∃v,wY (s,(at0,())) c (ends,(en0,())) true ids (tD (uT s P a) sr tg cm st fd l m)=
  some (.inl (tD (if sR .str .bool m uP=true then(((nS s P):Int),kS s P,uP,(fS s P:Int),((nS s P):Int),(fS s P:Int),9,(P:Int)) else vA s (nS s (nS s P)) a (nS s (nS s P)) (kS s (nS s P)) (xS s (nS s P)) (fS s (nS s P)) (nS s (nS s P)) (nS s P) (uU (decide (kS s (nS s P)≠2)|| !decide (0<=uJ (xS s (nS s P)))) false false)) sr tg cm v fd l (tY .str .bool uP true m)))/\
  (¬sR .str .bool m uP=true->v=max 0 (uJ (xS s (nS s P)))):=by
 have hQ:=(tC hP).2;unfold wY tD uT;dsimp only;rw[aU8 (KE hk),hx,aVa (by rw[aIm.1];decide)];unfold sH;rw[aIm.2];dsimp only;rw[aVa pK,aVa pK,aVa pK,aVa pK,aU8 rfl];obtain⟨v,hv,h2⟩:=aP9 hsm hQ (c:=(c.1,(c.2.1,(c.2.2.1,(c.2.2.2.1,()))))) (a:=a) (en:=(P:Int)) (f:=(fS s P:Int)) (k:=kS s P) (x:=uP) (ends:=ends) (ids:=ids) (b9:=[]) (b10:=sr) (b11:=tg) (b12:=cm) (b18:=l) (b13:=(st,(fd,()))) (b14:=true) (b21:=m);refine⟨v,?_,h2⟩;rw[hv,aU7];rfl
theorem aQm (hk:kS s P=2) (hx:xS s P=CW) (hl:l.length<=1000):wY (s,(at0,())) c (ends,(en0,())) true ids (tD (uT s P a) sr tg cm st fd l m)=
  some (.inl (tD (vA s (nS s (nS s P)) a (nS s (nS s P)) (kS s (nS s P)) (xS s (nS s P)) (fS s (nS s P)) (nS s (nS s P)) (nS s P) (uU (decide (kS s (nS s P)≠2)|| !sS (xS s (nS s P))) (l.any fun y=>decide (y=xS s (nS s P))) (decide (l.length=20)))) sr tg cm st fd (l++[xS s (nS s P)]) m)):=by
 have hQ:=(tC hP).2;unfold wY tD uT;dsimp only;rw[aU8 (KE hk),hx,aVa (by rw[aIn.1];decide)];unfold sH;rw[aIn.2];dsimp only;rw[aVa pK,aVa pK,aVa pK,aVa pK,aVa pK,aU8 rfl];rw[V8 hsm hQ hl,aU7];rfl
theorem aIo (hk:kS s P=2) (hx: ∀b c' d e g m',yF .str .fn (y9 [] b c' d e hd g m') (xS s P)=false):wY (s,(at0,())) c (ends,(en0,())) hd ids (tD (uT s P a) sr tg cm st fd l m)=
  some (.inr (tD ((nS s P:Int),kS s P,xS s P,(fS s P:Int),(nS s P:Int),(fS s P:Int),3,(P:Int)) sr tg cm st fd l m)):=by
 unfold wY tD uT;dsimp only;rw[aU8 (KE hk),aU8 (by rw[hx];rfl)];unfold sH;rw[YB]
theorem aQn (hk:kS s P≠2):wY (s,(at0,())) c (ends,(en0,())) hd ids (tD (uT s P a) sr tg cm st fd l m)=
  some (.inr (tD (uT s P a) sr tg cm st fd l m)):=by
 unfold wY tD uT;dsimp only;rw[aVa (by simp [hk])]
omit hsm hP in
theorem a9C {r:R8}(he:r.2.2.2.2.2.2.1≠0):wY (s,(at0,())) c (ends,(en0,())) hd ids (tD r sr tg cm st fd l m)=
  some (.inr (tD r sr tg cm st fd l m)):=by
 unfold wY tD;dsimp only;rw[aVa (by simp [he])]
end
def DP: ∀(x y:pG),Op.bytesLess x y=decide (x<y)
 |[],[]=>by simp [Op.bytesLess]
 |_::_,[]=>by simp [Op.bytesLess]
 |[],_::_=>by simp [Op.bytesLess]
 |a::x,b::y=>by
  rw[Op.bytesLess,DP x y];simp only[List.cons_lt_cons_iff];by_cases h1:a<b<;>by_cases h2:a=b<;>by_cases h3:x<y<;>simp [h1,h2,h3]
def aIp (l:pH):(xF l).Pairwise (·<=·):=by
 have:=List.pairwise_mergeSort (le:=fun x y:pG=>decide (x<=y)) (fun a b c h1 h2=>aWh (List.le_trans (aVU h1) (aVU h2))) (fun a b=>by simpa using List.le_total a b) l;exact this.imp (fun h=>aVU h)
def YH (l:pH):(xF l).Perm l:=List.mergeSort_perm l _
def a9D (l:pH):(xF l).length=l.length:=(YH l).length_eq
def aQo (l:pH) (p:pG->Bool):(xF l).any p=l.any p:=(YH l).any_eq
def aQp (l:pH) (x:pG):(EN l x).Perm (l++[x]):=by
 unfold EN;have h:(l.take (yN l x)++l.drop (yN l x))=l:=aWn _ _;have h2:(l.take (yN l x)++[x]++l.drop (yN l x)).Perm (l.take (yN l x)++(l.drop (yN l x)++[x])):=by
  rw[aVi];exact List.Perm.append_left _ List.perm_append_comm
 have h3:l.take (yN l x)++(l.drop (yN l x)++[x])=l++[x]:=by rw[<-aVi,h]
 rw[h3] at h2;exact h2
def aQq {l:pH}(x:pG) (h:l.Pairwise (·<=·)):(EN l x).Pairwise (·<=·):=by
 have ht: ∀y∈l.take (yN l x),y<=x:=by
  intro y hy;obtain⟨j,hj,rfl⟩:=List.mem_iff_getElem.1 hy;rw[aVx] at hj;rw[List.getElem_take];have:Op.bytesLess l[j] x=true:=by
   have hk:yN l x=(l.findIdx? fun y=> !Op.bytesLess y x).getD l.length:=rfl;cases hf:l.findIdx? fun y=> !Op.bytesLess y x with
   |none=>
    have:=aWl.1 hf l[j] (aV9 _);simpa using this
   |some n=>
    rw[hf] at hk;have:=(aVM.1 hf).2.2 j (by rw[hk] at hj;simp only[aWz] at hj;omega);simpa using this
  rw[DP] at this;exact List.le_of_lt (aVU this)
 have hd: ∀y∈l.drop (yN l x),x<=y:=by
  intro y hy;have hk:yN l x=(l.findIdx? fun y=> !Op.bytesLess y x).getD l.length:=rfl;cases hf:l.findIdx? fun y=> !Op.bytesLess y x with
  |none=>
   rw[hf] at hk;rw[hk] at hy;simp at hy
  |some n=>
   rw[hf] at hk;obtain⟨hn,h1,h2⟩:=aVM.1 hf;have hx:x<=l[n]:=by
    rw[DP] at h1;simp only[aVG,aVO] at h1;exact List.not_lt.1 h1
   rw[hk] at hy;simp only[aWz] at hy;rw[aVA hn] at hy;rcases aVs.1 hy with rfl|hy
   .exact hx
   .have hp:(l.drop n).Pairwise (·<=·):=h.sublist (List.drop_sublist _ _);rw[aVA hn] at hp;exact List.le_trans hx ((aWX.1 hp).1 y hy)
 unfold EN;rw[aVi];refine aWy.2 ⟨h.sublist (List.take_sublist _ _),aWy.2 ⟨aWK _ _,h.sublist (List.drop_sublist _ _),?_⟩,?_⟩
 .intro a ha b hb;rw[aVm.1 ha];exact hd b hb
 .intro a ha b hb;have hax:=ht a ha;rcases aWa.1 hb with hb|hb
  .rw[aVm.1 hb];exact hax
  .exact List.le_trans hax (hd b hb)
def aQr (l:pH) (x:pG):EN (xF l) x=xF (l++[x]):=
 List.Perm.eq_of_pairwise (fun _ _ _ _ h1 h2=>List.le_antisymm h1 h2) (aQq x (aIp l)) (aIp _)
  ((aQp _ _).trans (((YH l).append_right _).trans (YH _).symm))
def aQs {b:UInt8}{t:pG}(h:yB b.toNat=true):0<wA (b::t):=by
 unfold wA;have hw:wQ b=true:=by
  unfold wQ SZ;simp [h]
 rw[aWd,aVa (by simp [hw])];cases t.findIdx? fun b=> !wQ b with
 |none=>simp
 |some n=>simp
def aIq {l:pG}(h0:(tX l).1≠0) (h4:(tX l).1≠4):0<(tX l).2.2:=by
 cases l with
 |nil=>exact absurd rfl h4
 |cons b t=>
  by_cases h1:b=123\/b=125
  .rw[FT h1];exact Nat.one_pos
  .by_cases h2:b=34
   .rw[DM h1 h2] at h0|-;unfold x9 at*;cases he:sU 34 t with
    |none=>rw[he] at h0;exact absurd rfl h0
    |some n=>
     rw[he] at h0;dsimp only at*;split
     .rename_i hh;rw[aU8 hh] at h0;exact absurd rfl h0
     .exact Nat.succ_pos _
   .by_cases h3:yB b.toNat=true
    .rw[DN h1 h2 h3];exact aQs h3
    .rw[K9 h1 h2 h3] at h0;exact absurd rfl h0
def wS {s:pG}{P:Nat}(h0:kS s P≠0) (h4:kS s P≠4):P<nS s P:=by
 unfold kS at*;unfold nS;unfold tO at*;split
 .rename_i hg;rw[aU8 hg] at h0 h4;have:=aIq h0 h4;dsimp only;omega
 .rename_i hg;rw[aVa hg] at h0;exact absurd rfl h0
abbrev IM:=Int×Int×Int×pG×pG×pH×pH×Int×List s7×Bool×Bool×Bool
section
variable {s:pG}(hsm:s.length<=4000000000) {P:Nat}(hP:P<=s.length) {c:C4}{bad bad0 at0 e0:Int}{ends:pP}
 {i1 sr tg:pG}{cm fg:pH}{st:Int}{fd:List s7}{i:rZ}{d1 d2 d3 hd:Bool}
include hsm hP
theorem AM (hk:kS s P=2):uL (s,(at0,(bad0,(e0,(c,(ends,())))))) i hd ((P:Int),bad,0,sr,tg,cm,fg,st,fd,d1,d2,d3)=
  (BT (s,((nS s P:Int),(bad,(0,(c,(ends,())))))) (i.1,(sr,(tg,(cm,(fg,(st,(fd,()))))))) (d1,(d2,(d3,()))) (2,(xS s P,((fS s P:Int),((nS s P:Int),())))) hd).bind fun r=>
   some (.inl (r.1,r.2.1,r.2.2.1,r.2.2.2.1,r.2.2.2.2.1,r.2.2.2.2.2.1,r.2.2.2.2.2.2.1,r.2.2.2.2.2.2.2.1,r.2.2.2.2.2.2.2.2.1,r.2.2.2.2.2.2.2.2.2.1,r.2.2.2.2.2.2.2.2.2.2.1,r.2.2.2.2.2.2.2.2.2.2.2)):=by
 have hkR:kR (kS s P)=2:=(yM pK pK).2 hk;unfold uL;dsimp only;rw[aU8 (show decide ((0:Int)=0)=true from rfl),T6 hsm hP,aU7];dsimp only;rw[hkR,aVa (show¬(decide ((2:Int)=3)&&decide (xS s P=[125]))=true from by simp),aVa (show¬(!decide ((2:Int)=2))=true from by simp)]
theorem TA (hk:kS s P=3) (hx:xS s P=[125]) (he:ends.length<=5000):uL (s,(at0,(bad0,(e0,(c,(ends,())))))) i hd ((P:Int),bad,0,sr,tg,cm,fg,st,fd,d1,d2,d3)=
  some (.inr (.inr ((nS s P:Int),bad,0,ends++[(nS s P:Int)],sr,tg,cm,fg,st,fd))):=by
 have hkR:kR (kS s P)=3:=(yM pK pK).2 hk;unfold uL;dsimp only;rw[aU8 (show decide ((0:Int)=0)=true from rfl),T6 hsm hP,aU7];dsimp only;rw[hkR,aU8 (show (decide ((3:Int)=3)&&decide (xS s P=[125]))=true from by simp [hx]),aU8 pM,aU8 pM];rfl
theorem a9E (hk:kS s P≠2) (hx: ¬(kS s P=3/\xS s P=[125])):uL (s,(at0,(bad0,(e0,(c,(ends,())))))) i hd ((P:Int),bad,0,sr,tg,cm,fg,st,fd,d1,d2,d3)=
  some (.inr (.inr ((P:Int),(fS s P:Int),3,ends,sr,tg,cm,fg,st,fd))):=by
 have hk2:kR (kS s P)≠2:=fun h=>hk ((yM pK pK).1 h);have hk3: ¬(kR (kS s P)=3/\xS s P=[125]):=fun h=>hx ⟨(yM pK pK).1 h.1,h.2⟩;unfold uL;dsimp only;rw[aU8 (show decide ((0:Int)=0)=true from rfl),T6 hsm hP,aU7];dsimp only;rw[aVa (show¬(decide (kR (kS s P)=3)&&decide (xS s P=[125]))=true from by simpa using hk3),aU8 (show (!decide (kR (kS s P)=2))=true from by simpa using hk2)];unfold sH;rw[wR]
omit hsm hP in
theorem ML {e p:Int}(he:e≠0):uL (s,(at0,(bad0,(e0,(c,(ends,())))))) i hd (p,bad,e,sr,tg,cm,fg,st,fd,d1,d2,d3)=
  some (.inr (.inl (p,bad,e,sr,tg,cm,fg,st,fd))):=by
 unfold uL;dsimp only;rw[aVa (show¬decide (e=0)=true from by simpa using he)]
def tM (s:pG) (P:Nat) (a bad:Int) (ps:KD⊕KD) (rs:IM):Prop:=
 ∃(P':Nat) (sr tg:pG) (cm:pH) (st:Int) (fd:List s7) (l:pH) (m:pN),
  P<P'/\P'<=s.length/\ps= .inl (tD (uT s P' a) sr tg cm st fd l m)/\rs=((P':Int),bad,0,sr,tg,cm,xF l,st,fd,sR .str .bool m uC,sR .str .bool m uD,sR .str .bool m uP)/\
  cm.length<=20/\fd.length<=20/\l.length<=20
def Bad (ps:KD⊕KD) (rs:IM):Prop:=
 ∃(r:R8) (sr tg:pG) (cm:pH) (st:Int) (fd:List s7) (l:pH) (m:pN),
  r.2.2.2.2.2.2.1≠0/\(ps= .inl (tD r sr tg cm st fd l m)\/ps= .inr (tD r sr tg cm st fd l m))/\l.length<=21/\rs.2.1=r.2.2.2.2.2.1/\rs.2.2.1=r.2.2.2.2.2.2.1
end
theorem aIr (d1 d2 d3:Bool):((decide (uC=uC)&&d1)||(decide (uC=uD)&&d2)||(decide (uC=uP)&&d3))=d1:=by cases d1<;>cases d2<;>cases d3<;>rfl
theorem aIs (d1 d2 d3:Bool):((decide (uD=uC)&&d1)||(decide (uD=uD)&&d2)||(decide (uD=uP)&&d3))=d2:=by cases d1<;>cases d2<;>cases d3<;>rfl
theorem aIt (d1 d2 d3:Bool):((decide (uP=uC)&&d1)||(decide (uP=uD)&&d2)||(decide (uP=uP)&&d3))=d3:=by cases d1<;>cases d2<;>cases d3<;>rfl
theorem EQ {s:pG}{P:Nat}{a at0 k:Int}{x:pG}{f t en code:Int}(h:code=0):vA s P a at0 k x f t en code=uT s P a:=aU8 h
theorem yO {s:pG}{P:Nat}{a at0 k:Int}{x:pG}{f t en code:Int}(h:code≠0):vA s P a at0 k x f t en code=(at0,k,x,f,t,f,code,en):=aVa h
theorem zU {r:R8}{sr tg:pG}{cm:pH}{st:Int}{fd:List s7}{l:pH}{m:pN}{rs:IM}{f e:Int}
  (h1:r.2.2.2.2.2.1=f) (h2:r.2.2.2.2.2.2.1=e) (he:e≠0) (hl:l.length<=21) (h3:rs.2.1=f) (h4:rs.2.2.1=e):Bad (.inl (tD r sr tg cm st fd l m)) rs:=
 ⟨r,sr,tg,cm,st,fd,l,m,by rw[h2];exact he,.inl rfl,hl,h3.trans h1.symm,h4.trans h2.symm⟩
theorem aIu {r:R8}{sr tg:pG}{cm:pH}{st:Int}{fd:List s7}{l:pH}{m:pN}{rs:IM}{f e:Int}
  (h1:r.2.2.2.2.2.1=f) (h2:r.2.2.2.2.2.2.1=e) (he:e≠0) (hl:l.length<=21) (h3:rs.2.1=f) (h4:rs.2.2.1=e):Bad (.inr (tD r sr tg cm st fd l m)) rs:=
 ⟨r,sr,tg,cm,st,fd,l,m,by rw[h2];exact he,.inr rfl,hl,h3.trans h1.symm,h4.trans h2.symm⟩
section
variable {s:pG}(hsm:s.length<=4000000000) {P:Nat}(hP:P<=s.length) {c c2:C4}{a en0 at0 at1 bad bad0 e0:Int}{ends ends2:pP}{ids:pN}
 {sr tg:pG}{cm l:pH}{st:Int}{fd:List s7}{m:pN}{hd:Bool}{i:rZ}
include hsm hP
def AN (s:pG) (P:Nat) (c c2:C4) (a en0 at0 at1 bad bad0 e0:Int) (ends ends2:pP) (ids:pN) (sr tg:pG) (cm l:pH) (st:Int) (fd:List s7) (m:pN) (hd:Bool) (i:rZ):Prop:=
 ∃ps rs,wY (s,(at0,())) c (ends,(en0,())) hd ids (tD (uT s P a) sr tg cm st fd l m)=some ps/\
  uL (s,(at1,(bad0,(e0,(c2,(ends2,())))))) i (!hd) ((P:Int),bad,0,sr,tg,cm,xF l,st,fd,sR .str .bool m uC,sR .str .bool m uD,sR .str .bool m uP)=some (.inl rs)/\
  (tM s P a bad ps rs\/Bad ps rs)
theorem aQt (hk:kS s P=2) (hx:xS s P=xW) (h1:cm.length<=20) (h2:fd.length<=20) (h3:l.length<=20):AN s P c c2 a en0 at0 at1 bad bad0 e0 ends ends2 ids sr tg cm l st fd m hd i:=by
 have hQ:=(tC hP).2;have hPQ:P<nS s P:=wS pJ pJ;have hR:=tC hQ;unfold AN;rw[AM hsm hP hk];by_cases h20:cm.length=20
 .obtain⟨y,hy⟩:=aQh (c:=c) (a:=a) (en0:=en0) (at0:=at0) (ends:=ends) (ids:=ids) (sr:=sr) (tg:=tg) (l:=l) (st:=st) (fd:=fd) (m:=m) (hd:=hd) hsm hP hk hx h20;rw[hy,a9A hsm hQ hx pJ,aU7];exact⟨_,_,rfl,rfl,.inr (zU rfl rfl (show (6:Int)≠0 from by decide) pJ rfl rfl)⟩
 .rw[aQg hsm hP hk hx pJ h20,T7 hsm hQ hx pJ,aU7];by_cases hk1:kS s (nS s P)=1
  .rw[aU8 hk1,EQ (EL (by simp [hk1]) pL pL)];exact⟨_,_,rfl,rfl,.inl ⟨nS s (nS s P),sr,tg,cm++[xS s (nS s P)],st,fd,l,m,pJ,hR.2,rfl,rfl,by simp;omega,h2,h3⟩⟩
  .rw[aVa hk1,AJ (by simp [hk1]),yO pK];exact⟨_,_,rfl,rfl,.inr (zU rfl rfl (show (3:Int)≠0 from by decide) pJ rfl rfl)⟩
theorem aQu (hk:kS s P=2) (hx:xS s P=uC) (h1:cm.length<=20) (h2:fd.length<=20) (h3:l.length<=20):AN s P c c2 a en0 at0 at1 bad bad0 e0 ends ends2 ids sr tg cm l st fd m true i:=by
 have hQ:=(tC hP).2;have hPQ:P<nS s P:=wS pJ pJ;have hR:=tC hQ;unfold AN;rw[AM hsm hP hk,show (!true)=false from rfl,hx,EP hsm hQ pK pK pK,aIr,aU7];obtain⟨v,hv,h5⟩:=aQj (c:=c) (a:=a) (en0:=en0) (at0:=at0) (ends:=ends) (ids:=ids) (sr:=sr) (tg:=tg) (cm:=cm) (l:=l) (st:=st) (fd:=fd) (m:=m) hsm hP hk hx;rw[hv];by_cases hd1:sR .str .bool m uC=true
 .rw[aU8 hd1,aU8 hd1];exact⟨_,_,rfl,rfl,.inr (zU rfl rfl (show (9:Int)≠0 from by decide) pJ rfl rfl)⟩
 .rw[aVa hd1,aVa hd1,aU8 rfl,h5 hd1];by_cases hk1:kS s (nS s P)=1
  .rw[aU8 hk1,EQ (EL (by simp [hk1]) pL pL)];refine⟨_,_,rfl,rfl,.inl ⟨nS s (nS s P),xS s (nS s P),tg,cm,st,fd,l,tY .str .bool uC true m,pJ,hR.2,rfl,?_,h1,h2,h3⟩⟩;rw[FV,FV,FV,aU8 rfl,aVa pK,aVa pK]
  .rw[aVa hk1,AJ (by simp [hk1]),yO pK];exact⟨_,_,rfl,rfl,.inr (zU rfl rfl (show (3:Int)≠0 from by decide) pJ rfl rfl)⟩
theorem aQv (hk:kS s P=2) (hx:xS s P=uD) (h1:cm.length<=20) (h2:fd.length<=20) (h3:l.length<=20):AN s P c c2 a en0 at0 at1 bad bad0 e0 ends ends2 ids sr tg cm l st fd m true i:=by
 have hQ:=(tC hP).2;have hPQ:P<nS s P:=wS pJ pJ;have hR:=tC hQ;unfold AN;rw[AM hsm hP hk,show (!true)=false from rfl,hx,EP hsm hQ pK pK pK,aIs,aU7];obtain⟨v,hv,h5⟩:=aQk (c:=c) (a:=a) (en0:=en0) (at0:=at0) (ends:=ends) (ids:=ids) (sr:=sr) (tg:=tg) (cm:=cm) (l:=l) (st:=st) (fd:=fd) (m:=m) hsm hP hk hx;rw[hv];by_cases hd1:sR .str .bool m uD=true
 .rw[aU8 hd1,aU8 hd1];exact⟨_,_,rfl,rfl,.inr (zU rfl rfl (show (9:Int)≠0 from by decide) pJ rfl rfl)⟩
 .rw[aVa hd1,aVa hd1,aVa pK,aU8 rfl,h5 hd1];by_cases hk1:kS s (nS s P)=1
  .rw[aU8 hk1,EQ (EL (by simp [hk1]) pL pL)];refine⟨_,_,rfl,rfl,.inl ⟨nS s (nS s P),sr,xS s (nS s P),cm,st,fd,l,tY .str .bool uD true m,pJ,hR.2,rfl,?_,h1,h2,h3⟩⟩;rw[FV,FV,FV,aVa pK,aU8 rfl,aVa pK]
  .rw[aVa hk1,AJ (by simp [hk1]),yO pK];exact⟨_,_,rfl,rfl,.inr (zU rfl rfl (show (3:Int)≠0 from by decide) pJ rfl rfl)⟩
theorem aQw (hk:kS s P=2) (hx:xS s P=uP) (h1:cm.length<=20) (h2:fd.length<=20) (h3:l.length<=20):AN s P c c2 a en0 at0 at1 bad bad0 e0 ends ends2 ids sr tg cm l st fd m true i:=by
 have hQ:=(tC hP).2;have hPQ:P<nS s P:=wS pJ pJ;have hR:=tC hQ;unfold AN;rw[AM hsm hP hk,show (!true)=false from rfl,hx,EP hsm hQ pK pK pK,aIt,aU7];obtain⟨v,hv,h5⟩:=aQl (c:=c) (a:=a) (en0:=en0) (at0:=at0) (ends:=ends) (ids:=ids) (sr:=sr) (tg:=tg) (cm:=cm) (l:=l) (st:=st) (fd:=fd) (m:=m) hsm hP hk hx;rw[hv];by_cases hd1:sR .str .bool m uP=true
 .rw[aU8 hd1,aU8 hd1];exact⟨_,_,rfl,rfl,.inr (zU rfl rfl (show (9:Int)≠0 from by decide) pJ rfl rfl)⟩
 .rw[aVa hd1,aVa hd1,aVa pK,aVa pK,aU8 rfl,h5 hd1];by_cases hk1:kS s (nS s P)=2
  .rw[aU8 hk1];by_cases h6:uJ (xS s (nS s P))<0
   .rw[aU8 h6,AJ (by simp [hk1];omega),yO pK];exact⟨_,_,rfl,rfl,.inr (zU rfl rfl (show (3:Int)≠0 from by decide) pJ rfl rfl)⟩
   .rw[aVa h6,EQ (EL (by simp [hk1];omega) pL pL),show max 0 (uJ (xS s (nS s P)))=uJ (xS s (nS s P)) by omega];refine⟨_,_,rfl,rfl,.inl ⟨nS s (nS s P),sr,tg,cm,uJ (xS s (nS s P)),fd,l,tY .str .bool uP true m,pJ,hR.2,rfl,?_,h1,h2,h3⟩⟩;rw[FV,FV,FV,aVa pK,aVa pK,aU8 rfl]
  .rw[aVa hk1,AJ (by simp [hk1]),yO pK];exact⟨_,_,rfl,rfl,.inr (zU rfl rfl (show (3:Int)≠0 from by decide) pJ rfl rfl)⟩
theorem aQx (hk:kS s P=2) (hx:xS s P=zE) (h1:cm.length<=20) (h2:fd.length<=20) (h3:l.length<=20):AN s P c c2 a en0 at0 at1 bad bad0 e0 ends ends2 ids sr tg cm l st fd m hd i:=by
 have hQ:=(tC hP).2;have hPQ:P<nS s P:=wS pJ pJ;have hR:=tC hQ;have hR2:=tC hR.2;unfold AN;rw[AM hsm hP hk,T8 hsm hQ hx pJ,aU7];obtain⟨v,hv,h5⟩:=aQi (c:=c) (a:=a) (en0:=en0) (at0:=at0) (ends:=ends) (ids:=ids) (sr:=sr) (tg:=tg) (cm:=cm) (l:=l) (st:=st) (fd:=fd) (m:=m) (hd:=hd) hsm hP hk hx pJ;rw[hv];unfold EM;by_cases hk1:kS s (nS s P)=1
 .rw[aVa (show¬kS s (nS s P)≠1 from fun h=>h hk1)];by_cases hn:sS (xS s (nS s P))=true
  .rw[aVa (show¬sS (xS s (nS s P))=false from by simp [hn])];have hb: ¬(decide (kS s (nS s P)≠1)|| !sS (xS s (nS s P)))=true:=by simp [hk1,hn]
   by_cases hdup:(fd.any fun y=>decide (y.1=xS s (nS s P)))=true
   .rw[aU8 hdup,PN hb hdup,aVa (show¬(9:Int)=0 from by decide)];exact⟨_,_,rfl,rfl,.inr (zU rfl rfl (show (9:Int)≠0 from by decide) pJ rfl rfl)⟩
   .rw[aVa hdup];by_cases h20:fd.length=20
    .rw[aU8 (show 20<=fd.length by omega),PO hb hdup (aWh h20),aVa (show¬(6:Int)=0 from by decide)];exact⟨_,_,rfl,rfl,.inr (zU rfl rfl (show (6:Int)≠0 from by decide) pJ rfl rfl)⟩
    .have hc:=EL hb hdup (show¬decide (fd.length=20)=true from by simp [h20]);rw[aVa (show¬20<=fd.length by omega),h5 hc,hc,aU8 rfl];by_cases hk2:kS s (nS s (nS s P))=1
     .rw[aVa (show¬kS s (nS s (nS s P))≠1 from fun h=>h hk2),EQ (EL (by simp [hk2]) pL pL)];have hl:=aOX fd (xS s (nS s P)) (xS s (nS s (nS s P)));exact⟨_,_,rfl,rfl,.inl ⟨nS s (nS s (nS s P)),sr,tg,cm,st,BG fd (xS s (nS s P)) (xS s (nS s (nS s P))),l,m,pJ,hR2.2,rfl,rfl,h1,pJ,h3⟩⟩
     .rw[aU8 hk2,AJ (by simp [hk2]),yO pK];exact⟨_,_,rfl,rfl,.inr (zU rfl rfl (show (3:Int)≠0 from by decide) pJ rfl rfl)⟩
  .have hn':sS (xS s (nS s P))=false:=by simpa using hn
   rw[aU8 hn',AJ (by simp [hn']),aVa (show¬(3:Int)=0 from by decide)];exact⟨_,_,rfl,rfl,.inr (zU rfl rfl (show (3:Int)≠0 from by decide) pJ rfl rfl)⟩
 .rw[aU8 hk1,AJ (by simp [hk1]),aVa (show¬(3:Int)=0 from by decide)];exact⟨_,_,rfl,rfl,.inr (zU rfl rfl (show (3:Int)≠0 from by decide) pJ rfl rfl)⟩
theorem aQy (hk:kS s P=2) (hx:xS s P=CW) (h1:cm.length<=20) (h2:fd.length<=20) (h3:l.length<=20):AN s P c c2 a en0 at0 at1 bad bad0 e0 ends ends2 ids sr tg cm l st fd m true i:=by
 have hQ:=(tC hP).2;have hPQ:P<nS s P:=wS pJ pJ;have hR:=tC hQ;have hsl:=a9D l;unfold AN;rw[AM hsm hP hk,show (!true)=false from rfl,T9 hsm hQ hx pJ,aU7,aQm hsm hP hk hx pJ];unfold EO;rw[aQo,hsl,aQr];by_cases hk1:kS s (nS s P)=2
 .rw[aVa (show¬kS s (nS s P)≠2 from fun h=>h hk1)];by_cases hn:sS (xS s (nS s P))=true
  .rw[aVa (show¬sS (xS s (nS s P))=false from by simp [hn])];have hb: ¬(decide (kS s (nS s P)≠2)|| !sS (xS s (nS s P)))=true:=by simp [hk1,hn]
   by_cases hdup:(l.any fun y=>decide (y=xS s (nS s P)))=true
   .rw[aU8 hdup,PN hb hdup,yO pK];exact⟨_,_,rfl,rfl,.inr (zU rfl rfl (show (9:Int)≠0 from by decide) pM rfl rfl)⟩
   .rw[aVa hdup];by_cases h20:l.length=20
    .rw[aU8 (show 20<=l.length by omega),PO hb hdup (aWh h20),yO pK];exact⟨_,_,rfl,rfl,.inr (zU rfl rfl (show (6:Int)≠0 from by decide) pM rfl rfl)⟩
    .rw[aVa (show¬20<=l.length by omega),EQ (EL hb hdup (show¬decide (l.length=20)=true from by simp [h20]))];exact⟨_,_,rfl,rfl,.inl ⟨nS s (nS s P),sr,tg,cm,st,fd,l++[xS s (nS s P)],m,pJ,hR.2,rfl,rfl,h1,h2,by simp;omega⟩⟩
  .have hn':sS (xS s (nS s P))=false:=by simpa using hn
   rw[aU8 hn',AJ (by simp [hn']),yO pK];exact⟨_,_,rfl,rfl,.inr (zU rfl rfl (show (3:Int)≠0 from by decide) pM rfl rfl)⟩
 .rw[aU8 hk1,AJ (by simp [hk1]),yO pK];exact⟨_,_,rfl,rfl,.inr (zU rfl rfl (show (3:Int)≠0 from by decide) pM rfl rfl)⟩
theorem aQz (hk:kS s P=2) (hx:xS s P≠xW) (hx2:xS s P≠zE) (h3:l.length<=20):AN s P c c2 a en0 at0 at1 bad bad0 e0 ends ends2 ids sr tg cm l st fd m false i:=by
 have hQ:=(tC hP).2;unfold AN;rw[AM hsm hP hk,show (!false)=true from rfl,a9B hsm hQ hx hx2,aU7,aIo hsm hP hk (fun _ _ _ _ _ _=>aQe hx hx2)];exact⟨_,_,rfl,rfl,.inr (aIu rfl rfl (show (3:Int)≠0 from by decide) pJ rfl rfl)⟩
theorem aQA (hk:kS s P=2) (hx:xS s P≠xW) (hx2:xS s P≠zE) (hx3:xS s P≠uC) (hx4:xS s P≠uD) (hx5:xS s P≠uP) (hx6:xS s P≠CW) (h3:l.length<=20):AN s P c c2 a en0 at0 at1 bad bad0 e0 ends ends2 ids sr tg cm l st fd m true i:=by
 have hQ:=(tC hP).2;unfold AN;rw[AM hsm hP hk,show (!true)=false from rfl,EP hsm hQ hx hx2 hx6,aU7,aIo hsm hP hk (fun _ _ _ _ _ _=>aQf hx hx2 hx3 hx4 hx5 hx6),
  aVa (by simp [hx3,hx4,hx5]),aVa hx3,aVa hx4,aVa hx5]
 exact⟨_,_,rfl,rfl,.inr (aIu rfl rfl (show (3:Int)≠0 from by decide) pJ rfl rfl)⟩
theorem aQB (hk:kS s P=2) (h1:cm.length<=20) (h2:fd.length<=20) (h3:l.length<=20):AN s P c c2 a en0 at0 at1 bad bad0 e0 ends ends2 ids sr tg cm l st fd m hd i:=by
 by_cases hx:xS s P=xW
 .exact aQt hsm hP hk hx h1 h2 h3
 by_cases hx2:xS s P=zE
 .exact aQx hsm hP hk hx2 h1 h2 h3
 cases hd with
 |false=>exact aQz hsm hP hk hx hx2 h3
 |true=>
  by_cases hx3:xS s P=uC
  .exact aQu hsm hP hk hx3 h1 h2 h3
  by_cases hx4:xS s P=uD
  .exact aQv hsm hP hk hx4 h1 h2 h3
  by_cases hx5:xS s P=uP
  .exact aQw hsm hP hk hx5 h1 h2 h3
  by_cases hx6:xS s P=CW
  .exact aQy hsm hP hk hx6 h1 h2 h3
  exact aQA hsm hP hk hx hx2 hx3 hx4 hx5 hx6 h3
end
abbrev S9:=Int×Int×Int×pG×pG×pH×pH×Int×List s7
abbrev GW:=Int×Int×Int×pP×pG×pG×pH×pH×Int×List s7
def aQC (s:pG) (P:Nat) (a bad:Int) (ends2:pP) (po:KD) (ro:S9⊕GW):Prop:=
 ∃(P':Nat) (sr tg:pG) (cm:pH) (st:Int) (fd:List s7) (l:pH) (m:pN),
  P<=P'/\P'<=s.length/\kS s P'=3/\xS s P'=[125]/\po=tD (uT s P' a) sr tg cm st fd l m/\ro= .inr ((nS s P':Int),bad,0,ends2++[(nS s P':Int)],sr,tg,cm,xF l,st,fd)/\
  cm.length<=20/\fd.length<=20/\l.length<=20
def aQD (s:pG) (P:Nat) (a:Int) (po:KD) (ro:S9⊕GW):Prop:=
 ∃(P':Nat) (sr tg:pG) (cm:pH) (st:Int) (fd:List s7) (l:pH) (m:pN) (r:GW),
  P<=P'/\P'<=s.length/\¬(kS s P'=3/\xS s P'=[125])/\po=tD (uT s P' a) sr tg cm st fd l m/\ro= .inr r/\r.2.1=(fS s P':Int)/\r.2.2.1=3/\l.length<=21
def aQE (po:KD) (ro:S9⊕GW):Prop:=
 ∃(r:R8) (sr tg:pG) (cm:pH) (st:Int) (fd:List s7) (l:pH) (m:pN) (r9:S9),
  r.2.2.2.2.2.2.1≠0/\po=tD r sr tg cm st fd l m/\l.length<=21/\ro= .inl r9/\r9.2.1=r.2.2.2.2.2.1/\r9.2.2.1=r.2.2.2.2.2.2.1
theorem AO {σ ρ:Type}{f:σ->Option (σ⊕ρ)}{x y:σ}(h:f x=some (.inl y)):rE f x=rE f y:=by
 rw[yZ,h];rfl
theorem vB {σ ρ:Type}{f:σ->Option (σ⊕ρ)}{x:σ}{r:ρ}(h:f x=some (.inr r)):rE f x=some r:=by
 rw[yZ,h];rfl
section
variable {s:pG}(hsm:s.length<=4000000000) {c c2:C4}{a en0 at0 at1 bad bad0 e0:Int}{ends ends2:pP}(hends:ends2.length<=5000) {ids:pN}{hd:Bool}{i:rZ}
include hsm hends
theorem aIv: ∀(n P:Nat) (sr tg:pG) (cm l:pH) (st:Int) (fd:List s7) (m:pN),
  s.length-P<=n->P<=s.length->cm.length<=20->fd.length<=20->l.length<=20->
  ∃po ro,rE (wY (s,(at0,())) c (ends,(en0,())) hd ids) (tD (uT s P a) sr tg cm st fd l m)=some po/\
   rE (uL (s,(at1,(bad0,(e0,(c2,(ends2,())))))) i (!hd)) ((P:Int),bad,0,sr,tg,cm,xF l,st,fd,sR .str .bool m uC,sR .str .bool m uD,sR .str .bool m uP)=some ro/\
   (aQC s P a bad ends2 po ro\/aQD s P a po ro\/aQE po ro)
 |n,P,sr,tg,cm,l,st,fd,m,hn,hP,h1,h2,h3=>by
  by_cases hk:kS s P=2
  .obtain⟨ps,rs,hp,hr,hgb⟩:=aQB (c:=c) (c2:=c2) (a:=a) (en0:=en0) (at0:=at0) (at1:=at1) (bad:=bad) (bad0:=bad0) (e0:=e0) (ends:=ends) (ends2:=ends2) (ids:=ids) (sr:=sr) (tg:=tg) (st:=st) (m:=m) (hd:=hd) (i:=i) hsm hP hk h1 h2 h3;rw[AO hr];rcases hgb with⟨P',sr',tg',cm',st',fd',l',m',g1,g2,rfl,rfl,g3,g4,g5⟩ |⟨r,sr',tg',cm',st',fd',l',m',b1,b2,b3,b4,b5⟩
   .rw[AO hp]
    match n,hn with
    |0,hn=>exact absurd g2 pJ
    |n+1,hn=>
     obtain⟨po,ro,i1,i2,i3⟩:=aIv n P' sr' tg' cm' l' st' fd' m' pJ g2 g3 g4 g5;refine⟨po,ro,i1,i2,?_⟩;rcases i3 with⟨Q,x1,x2,x3,x4,x5,x6,x7,y1,y2⟩ |⟨Q,x1,x2,x3,x4,x5,x6,x7,x8,y1,y2⟩ |h
     .exact .inl ⟨Q,x1,x2,x3,x4,x5,x6,x7,pJ,y2⟩
     .exact .inr (.inl ⟨Q,x1,x2,x3,x4,x5,x6,x7,x8,pJ,y2⟩)
     .exact .inr (.inr h)
   .obtain⟨q1,q2,q3,q4⟩:=rs;have hre:q3≠0:=by rw[show q3=r.2.2.2.2.2.2.1 from b5];exact b1
    rw[vB (ML (s:=s) (c:=c2) (bad:=q2) (bad0:=bad0) (at0:=at1) (e0:=e0) (ends:=ends2) (i:=i) (hd:= !hd) (p:=q1) (sr:=q4.1) (tg:=q4.2.1) (cm:=q4.2.2.1) (fg:=q4.2.2.2.1) (st:=q4.2.2.2.2.1) (fd:=q4.2.2.2.2.2.1) (d1:=q4.2.2.2.2.2.2.1) (d2:=q4.2.2.2.2.2.2.2.1) (d3:=q4.2.2.2.2.2.2.2.2) hre)];rcases b2 with rfl|rfl
    .rw[AO hp,vB (a9C b1)];exact⟨_,_,rfl,rfl,.inr (.inr ⟨r,sr',tg',cm',st',fd',l',m',_,b1,rfl,b3,rfl,b4,b5⟩)⟩
    .rw[vB hp];exact⟨_,_,rfl,rfl,.inr (.inr ⟨r,sr',tg',cm',st',fd',l',m',_,b1,rfl,b3,rfl,b4,b5⟩)⟩
  .rw[vB (aQn hsm hP hk)];by_cases hb:kS s P=3/\xS s P=[125]
   .rw[vB (TA hsm hP hb.1 hb.2 hends)];exact⟨_,_,rfl,rfl,.inl ⟨P,sr,tg,cm,st,fd,l,m,aVp _,hP,hb.1,hb.2,rfl,rfl,h1,h2,h3⟩⟩
   .rw[vB (a9E hsm hP hk hb)];exact⟨_,_,rfl,rfl,.inr (.inl ⟨P,sr,tg,cm,st,fd,l,m,_,aVp _,hP,hb,rfl,rfl,rfl,rfl,pJ⟩)⟩
end
abbrev MM (y:rZ):Prop:=r8 y.2.2.2.1/\r8 y.2.2.2.2.1/\r8 y.2.2.2.2.2.2.1
abbrev B15:=pG×pG×pH×pH×Int×List s7×Int×Int×pG×Int×Int×Int×Int×pP×Int
abbrev i0 (i1:pG):rZ:=(i1,([],([],([],([],(0,([],())))))))
def aQF (s:pG) (P:Nat) (a bad:Int) (ends ends2:pP) (po:B15) (ro:GW):Prop:=
 ∃(P':Nat) (sr tg:pG) (cm fg:pH) (st:Int) (fd:List s7),P<P'/\P'<=s.length/\
  po=(sr,tg,cm,fg,st,fd,(nS s P':Int),kS s P',xS s P',(fS s P':Int),(nS s P':Int),a,0,ends++[(P':Int)],(P':Int))/\
  ro=((P':Int),bad,0,ends2++[(P':Int)],sr,tg,cm,fg,st,fd)/\r8 cm/\r8 fg/\r8 fd
def aQG (po:B15) (ro:GW):Prop:=
 po.2.2.2.2.2.2.2.2.2.2.2.2.1≠0/\ro.2.1=po.2.2.2.2.2.2.2.2.2.2.2.1/\ro.2.2.1=po.2.2.2.2.2.2.2.2.2.2.2.2.1
section
variable {s:pG}(hsm:s.length<=4000000000) {P:Nat}(hP:P<=s.length) {c c2:C4}{a en at0 bad k f t e:Int}{x i1:pG}{ends ends2:pP}(hends:ends.length<=5000) (hends2:ends2.length<=5000) {ids:pN}{hd:Bool}{i:rZ}
include hends
theorem KF (he:e≠0): ∃po,wO (s,(at0,())) (k,(x,(f,(t,())))) a e c (ends,(en,())) hd ids=some po/\po.2.2.2.2.2.2.2.2.2.2.2.1=a/\po.2.2.2.2.2.2.2.2.2.2.2.2.1=e:=by
 unfold wO;rw[YD he,aU7];dsimp only;have h:=vB (a9C (s:=s) (at0:=at0) (c:=c) (ends:=ends) (en0:=en) (ids:=ids) (hd:=hd) (sr:=[]) (tg:=[]) (cm:=[]) (st:=0) (fd:=[]) (l:=[]) (m:=[]) (r:=(at0,k,x,f,t,a,e,en)) he);unfold tD at h;dsimp only at h;rw[h];unfold sB;rw[aU7];dsimp only;rw[YD he,aU7,aU8 pK,aU8 pM];exact⟨_,rfl,rfl,rfl⟩
include hsm hP hends2
theorem aIx: ∃po ro,wO (s,((nS s P:Int),())) (kS s P,(xS s P,((fS s P:Int),((nS s P:Int),())))) a 0 c (ends,(en,())) hd ids=some po/\
  vC (s,((P:Int),(bad,(0,(c2,(ends2,())))))) (i0 i1) (!hd)=some ro/\(aQF s P a bad ends ends2 po ro\/aQG po ro):=by
 have hQ:=(tC hP).2;unfold wO vC;rw[T4 hsm hQ,aU7,AK hsm hP,aU7];by_cases h0:kS s P=3/\xS s P=[123]
 .have hPQ:P<nS s P:=wS pJ pJ;rw[aU8 h0,EQ rfl,vJ (by rw[(yM pK pK).2 h0.1,h0.2];decide)];obtain⟨po,ro,h1,h2,h3⟩:=aIv (c:=c) (c2:=c2) (a:=a) (en0:=en) (at0:=(nS s P:Int)) (at1:=(P:Int)) (bad:=bad) (bad0:=bad) (e0:=0) (ends:=ends) (ids:=ids) (hd:=hd) (i:=i0 i1) hsm hends2 s.length (nS s P) [] [] [] [] 0 [] [] pJ hQ pK pK pK;unfold tD at h1;rw[show xF []=[] from aWL.1 (a9D []),show sR .str .bool [] uC=false from rfl,show sR .str .bool [] uD=false from rfl,show sR .str .bool [] uP=false from rfl] at h2;dsimp only;rw[h1];rw[h2];unfold sB;rw[aU7];rcases h3 with⟨P',sr,tg,cm,st,fd,l,m,g1,g2,g3,g4,rfl,rfl,g5,g6,g7⟩ |⟨P',sr,tg,cm,st,fd,l,m,r,g1,g2,g3,rfl,rfl,g4,g5,g6⟩ |⟨r,sr,tg,cm,st,fd,l,m,r9,g1,rfl,g2,rfl,g3,g4⟩
  .have hQ':=tC g2;have hpos:P'<nS s P':=wS pJ pJ;unfold tD uT;dsimp only;rw[T4 hsm hQ'.2,aU8 ⟨g3,g4⟩,EQ rfl,aU7,aU8 pJ,aU8 pM];exact⟨_,_,rfl,rfl,.inl ⟨nS s P',sr,tg,cm,xF l,st,fd,pJ,hQ'.2,rfl,rfl,by unfold r8;omega,by unfold r8;rw[a9D];omega,by unfold r8;omega⟩⟩
  .have hQ':=tC g2;unfold tD uT;dsimp only;rw[T4 hsm hQ'.2,aVa g3,yO pK,aU7,aU8 pJ,aU8 pM];exact⟨_,_,rfl,rfl,.inr ⟨show (3:Int)≠0 from by decide,g4,g5⟩⟩
  .unfold tD;dsimp only;rw[YD g1,aU7,aU8 pJ,aU8 pM];exact⟨_,_,rfl,rfl,.inr ⟨g1,g3,g4⟩⟩
 .rw[aVa h0,yO pK,xN (by simp only[aVg,aVZ,aVf,yM (show (3:Int)≠0 by decide) (show (3:Int)≠4 by decide)];intro hh;rcases hh with⟨u,v|v⟩;exact absurd v pK;exact h0 ⟨u,v⟩)]
  dsimp only;have h:=vB (a9C (s:=s) (at0:=(nS s P:Int)) (c:=c) (ends:=ends) (en0:=en) (ids:=ids) (hd:=hd) (sr:=[]) (tg:=[]) (cm:=[]) (st:=0) (fd:=[]) (l:=[]) (m:=[]) (r:=((nS s P:Int),kS s P,xS s P,(fS s P:Int),(nS s P:Int),(fS s P:Int),3,en)) (show (3:Int)≠0 from by decide));unfold tD at h;dsimp only at h;rw[h,vB (ML (show (3:Int)≠0 from by decide))];unfold sB;rw[aU7];dsimp only;rw[YD pK,aU7,aU8 pK,aU8 pM];exact⟨_,_,rfl,rfl,.inr ⟨show (3:Int)≠0 from by decide,rfl,rfl⟩⟩
end
section
variable {s:pG}(hsm:s.length<=4000000000) {P:Nat}(hP:P<=s.length) {c2:C4}{bad e:Int}{i1:pG}{ends2:pP}{hd:Bool}{i:rZ}
include hsm hP
theorem IN (he:e≠0): ∃ro,vC (s,((P:Int),(bad,(e,(c2,(ends2,())))))) i hd=some ro/\ro.2.1=bad/\ro.2.2.1=e:=by
 unfold vC;rw[KB hsm hP he,aU7];dsimp only;rw[vB (ML he)];exact⟨_,rfl,rfl,rfl⟩
end
def KG (es:List rZ) (x:pG):Int×Bool:=vG (fun k=>((k:Int),true)) ((0:Int),false) (es.findIdx? fun y=>decide (y.1=x))
theorem TB (es:List rZ) (x:pG):(KG es x).2=es.any fun y=>decide (y.1=x):=by
 rw[<-a9g];unfold KG;cases es.findIdx? fun y=>decide (y.1=x)<;>rfl
theorem PP (c:C4) (x:pG) (hl:c.2.2.2.1.length<=5000):HX c x=some (KG c.2.2.2.1 x):=by
 have h:=CN (f:=RJ c x) (l:=c.2.2.2.1) (fun y=>decide (y.1=x)) (fun k=>((k:Int),true)) (fun i h=>by
  unfold RJ;rw[aU8 (uI h),aU8 (sN h),z6 (t:=t7) h,aU8 (tN pJ)]) (by
  unfold RJ;rw[aVa (vZ _)])
 unfold HX;rw[h,GS];rfl
def PQ (ids:pN) (es:List rZ):Prop:= ∀x,sR .str .bool ids x=es.any fun y=>decide (y.1=x)
theorem aIy {ids:pN}{es:List rZ}(h:PQ ids es) (e:rZ) (x:pG) (he:e.1=x):PQ (tY .str .bool x true ids) (es++[e]):=by
 intro y;rw[FV,List.any_append,<-h y];by_cases hy:y=x
 .rw[aU8 hy];simp [he,hy]
 .rw[aVa hy];have:decide (e.1=y)=false:=by rw[he];simpa using fun hh=>hy hh.symm
  simp [this]
abbrev E11:=Int×Int×pG×Int×Int×Int×Int×List rZ×pP×Int×pN
abbrev E5:=Int×Int×Int×List rZ×pP
def aQH (s:pG) (P:Nat) (a bad:Int) (ends:pP) (es:List rZ) (po:E11) (ro:E5):Prop:=
 ∃(P':Nat) (y:rZ) (ids:pN),P<P'/\P'<=s.length/\es.length<1000/\PQ ids (es++[y])/\
  po=((nS s P':Int),kS s P',xS s P',(fS s P':Int),(nS s P':Int),a,0,es++[y],ends++[(P':Int)],(P':Int),ids)/\
  ro=((P':Int),bad,0,es++[y],ends++[(P':Int)])/\MM y
def aIz (po:E11) (ro:E5):Prop:=po.2.2.2.2.2.2.1≠0/\ro.2.1=po.2.2.2.2.2.1/\ro.2.2.1=po.2.2.2.2.2.2.1
section
variable {s:pG}(hsm:s.length<=4000000000) {P:Nat}(hP:P<=s.length) {a en bad:Int}{t1 t2:pG}{cm1 cm2:pH}{fd1 fd2:List s7}{es:List rZ}{ends:pP}(hends:ends.length<=5000) {ids:pN}(hids:PQ ids es) (hes:es.length<=1000)
include hsm hP hends hids hes
theorem a1o: ∃po ro,zC (s,((nS s P:Int),())) (kS s P,(xS s P,((fS s P:Int),((nS s P:Int),())))) a 0 (t1,(cm1,(fd1,(es,())))) (ends,(en,())) ids=some po/\
  BE (s,((P:Int),(bad,(0,((t2,(cm2,(fd2,(es,())))),(ends,()))))))=some ro/\(aQH s P a bad ends es po ro\/aIz po ro):=by
 have hQ:=(tC hP).2;have hR:=(tC hQ).2;unfold zC BE;rw[T4 hsm hQ,aU7,AK hsm hP,aU7];by_cases h0:kS s P=2/\xS s P=[101,110,116,114,121]
 .have hPQ:P<nS s P:=wS pJ pJ;rw[aU8 h0,EQ rfl,vJ (by rw[(yM pK pK).2 h0.1,h0.2];decide)];unfold uT;dsimp only;rw[aP2 hsm hR,aU7,AL hsm hQ pK pK,aU7,hids (xS s (nS s P))];by_cases hk1:kS s (nS s P)=1
  .have hQR:nS s P<nS s (nS s P):=wS pJ pJ;rw[vJ (by simpa using hk1)];dsimp only;rw[aVa (show¬(!decide ((0:Int)=0))=true from by decide),PP _ _ (show es.length<=5000 by omega),aU7,TB];dsimp only;by_cases hid:FU (xS s (nS s P))=true
   .have hid': ¬(decide (xS s (nS s P)=[])||decide ((200:Int)<((xS s (nS s P)).length:Int)))=true:=by
     unfold FU at hid;simp at hid|-;omega
    have hb: ¬(decide (kS s (nS s P)≠1)|| !FU (xS s (nS s P)))=true:=by simp [hk1,hid]
    rw[aVa hid'];by_cases hdup:(es.any fun y=>decide (y.1=xS s (nS s P)))=true
    .rw[aU8 hdup,PN hb hdup,yO pK];unfold sH;rw[wR];obtain⟨po,hpo,h1,h2⟩:=KF (s:=s) (at0:=(nS s (nS s P):Int)) (c:=(t1,(cm1,(fd1,(es,()))))) (a:=(fS s (nS s P):Int)) (en:=(nS s P:Int)) (k:=kS s (nS s P)) (x:=xS s (nS s P)) (f:=(fS s (nS s P):Int)) (t:=(nS s (nS s P):Int)) (ids:=tY .str .bool (xS s (nS s P)) true ids) (hd:=true) hends (show (9:Int)≠0 by decide);dsimp only;rw[hpo,aU7,aU8 pM];exact⟨_,_,rfl,rfl,.inr ⟨by show po.2.2.2.2.2.2.2.2.2.2.2.2.1≠0;rw[h2];decide,h1.symm,h2.symm⟩⟩
    .rw[aVa hdup];by_cases hm:es.length=1000
     .rw[aU8 (show decide ((1000:Int)<=(es.length:Int))=true from by simp;omega),PO hb hdup pM,yO pK];unfold sH;rw[wR];obtain⟨po,hpo,h1,h2⟩:=KF (s:=s) (at0:=(nS s (nS s P):Int)) (c:=(t1,(cm1,(fd1,(es,()))))) (a:=(fS s (nS s P):Int)) (en:=(nS s P:Int)) (k:=kS s (nS s P)) (x:=xS s (nS s P)) (f:=(fS s (nS s P):Int)) (t:=(nS s (nS s P):Int)) (ids:=tY .str .bool (xS s (nS s P)) true ids) (hd:=true) hends (show (6:Int)≠0 by decide);dsimp only;rw[hpo,aU7,aU8 pM];exact⟨_,_,rfl,rfl,.inr ⟨by show po.2.2.2.2.2.2.2.2.2.2.2.2.1≠0;rw[h2];decide,h1.symm,h2.symm⟩⟩
     .rw[aVa (show¬decide ((1000:Int)<=(es.length:Int))=true from by simp;omega),EL hb hdup pM,EQ rfl];unfold uT;dsimp only;obtain⟨po,ro,hpo,hro,h5⟩:=aIx (c:=(t1,(cm1,(fd1,(es,()))))) (c2:=(t2,(cm2,(fd2,(es,()))))) (a:=a) (en:=(nS s (nS s P):Int)) (bad:=bad) (i1:=xS s (nS s P)) (ids:=tY .str .bool (xS s (nS s P)) true ids) (hd:=true) hsm hR hends hends;rw[hpo,aU7,aU8 pM,show (false)= !true from rfl,hro,aU7,aU8 pM,aU8 pM];refine⟨_,_,rfl,rfl,?_⟩;rcases h5 with⟨P',sr,tg,cm,fg,st,fd,g1,g2,rfl,rfl,f1,f2,f3⟩ |⟨g1,g2,g3⟩
      .exact .inl ⟨P',_,_,pJ,g2,pJ,aIy hids _ _ rfl,rfl,rfl,f1,f2,f3⟩
      .exact .inr ⟨g1,g2,g3⟩
   .have hid':(decide (xS s (nS s P)=[])||decide ((200:Int)<((xS s (nS s P)).length:Int)))=true:=by
     unfold FU at hid;simp at hid|-;by_cases hh:xS s (nS s P)=[]<;>simp_all
    rw[aU8 hid',AJ (by simp [hid]),yO pK];unfold sH;rw[wR];obtain⟨po,hpo,h1,h2⟩:=KF (s:=s) (at0:=(nS s (nS s P):Int)) (c:=(t1,(cm1,(fd1,(es,()))))) (a:=(fS s (nS s P):Int)) (en:=(nS s P:Int)) (k:=kS s (nS s P)) (x:=xS s (nS s P)) (f:=(fS s (nS s P):Int)) (t:=(nS s (nS s P):Int)) (ids:=tY .str .bool (xS s (nS s P)) true ids) (hd:=true) hends (show (3:Int)≠0 by decide);dsimp only;rw[hpo,aU7,aU8 pM];exact⟨_,_,rfl,rfl,.inr ⟨by show po.2.2.2.2.2.2.2.2.2.2.2.2.1≠0;rw[h2];decide,h1.symm,h2.symm⟩⟩
  .rw[xN (by simpa using hk1),AJ (by simp [hk1]),yO pK];dsimp only;rw[aU8 (show (!decide ((3:Int)=0))=true from by decide)];obtain⟨po,hpo,h1,h2⟩:=KF (s:=s) (at0:=(nS s (nS s P):Int)) (c:=(t1,(cm1,(fd1,(es,()))))) (a:=(fS s (nS s P):Int)) (en:=(nS s P:Int)) (k:=kS s (nS s P)) (x:=xS s (nS s P)) (f:=(fS s (nS s P):Int)) (t:=(nS s (nS s P):Int)) (ids:=tY .str .bool (xS s (nS s P)) true ids) (hd:=true) hends (show (3:Int)≠0 by decide);rw[hpo,aU7,aU8 pM];exact⟨_,_,rfl,rfl,.inr ⟨by show po.2.2.2.2.2.2.2.2.2.2.2.2.1≠0;rw[h2];decide,h1.symm,h2.symm⟩⟩
 .rw[aVa h0,yO pK,xN (by simp only[aVg,aVZ,aVf,yM (show (2:Int)≠0 by decide) (show (2:Int)≠4 by decide)];intro hh;rcases hh with⟨u,v|v⟩;exact absurd v pK;exact h0 ⟨u,v⟩)]
  dsimp only;rw[aP3 pK,aU7,KB hsm hP pK,aU7];dsimp only;rw[aU8 (show (!decide ((3:Int)=0))=true from by decide)];obtain⟨po,hpo,h1,h2⟩:=KF (s:=s) (at0:=(nS s P:Int)) (c:=(t1,(cm1,(fd1,(es,()))))) (a:=(fS s P:Int)) (en:=en) (k:=kS s P) (x:=xS s P) (f:=(fS s P:Int)) (t:=(nS s P:Int)) (ids:=tY .str .bool (xS s P) true ids) (hd:=true) hends (show (3:Int)≠0 by decide);rw[hpo,aU7,aU8 pM];exact⟨_,_,rfl,rfl,.inr ⟨by show po.2.2.2.2.2.2.2.2.2.2.2.2.1≠0;rw[h2];decide,h1.symm,h2.symm⟩⟩
end
abbrev eD:t6:=([],([],([],([],([],(0,([],())))))))
def IP (es:List t6) (i:Nat):Bool:=((es.take i).any fun y=>decide (y.1=(es.getD i eD).1))|| !wZ (es.getD i eD)
def yP (c:C4):Bool:=((uM c.1&&xL c.2.1)&&xM c.2.2.1)&&(decide ((c.2.2.2.1.length:Int)<=1000)&& !((List.range c.2.2.2.1.length).any (IP c.2.2.2.1)))
def aIA {l:List t6}{i:Nat}:rC t7 l (i:Int)=l.getD i eD:=by unfold rC;rw[aVN];rfl
structure a9H (c:C4):Prop where
 tag:r8 c.1
 com:r8 c.2.1/\∀y∈c.2.1,r8 y
 fld:r8 c.2.2.1/\∀y∈c.2.2.1,SV y
 len:c.2.2.2.1.length<=5000
 ent: ∀x∈c.2.2.2.1,Y2 x
def aQI {α:Type}{l:List α}{i:Nat}{d:α}(h:i<l.length):l.take (i+1)=l.take i++[l.getD i d]:=by
 rw[List.take_add_one,aVj h,aVy,aVj h];rfl
def aIB {c:C4}(hc:a9H c): ∀(n i:Nat) (m:pN),i+n=c.2.2.2.1.length->PQ m (c.2.2.2.1.take i)->
  rE (M4 c) ((i:Int),m)=some (if (List.range' i n).any (IP c.2.2.2.1)=true then .inr false else .inl ())
 |0,i,m,hi,_=>by
  have:i=c.2.2.2.1.length:=by omega
  subst this;refine wW ?_;unfold M4;dsimp only;rw[aVa (vZ _)];rfl
 |n+1,i,m,hi,hm=>by
  have h:i<c.2.2.2.1.length:=by omega
  have he:=hc.ent _ (PF (d:=eD) h);have hl:=hc.len;have hst:M4 c ((i:Int),m)=if IP c.2.2.2.1 i=true then some (.inr (.inr false)) else some (.inl (((i+1:Nat):Int),tY .str .bool (c.2.2.2.1.getD i eD).1 true m)):=by
   unfold M4;dsimp only;rw[aU8 (uI h),aU8 (sN h),aIA,hm,aPj _ he,aU8 xK,aU8 (tN pJ)];rfl
  rw[aWU,List.any_cons];by_cases hb:IP c.2.2.2.1 i=true
  .rw[aU8 hb] at hst;rw[hb,Bool.true_or,aU8 rfl];exact wW hst
  .rw[aVa hb] at hst;rw[HR hst,aIB hc n (i+1) _ pJ (by rw[aQI (d:=eD) h];exact aIy hm _ _ rfl)];simp only[aV6] at hb;rw[hb,Bool.false_or]
def aQJ {c:C4}(hc:a9H c):M5 c=some (yP c):=by
 obtain⟨t1,t2⟩:=aHP _ hc.com.1 hc.com.2;have e2:=aHS _ hc.fld.1 hc.fld.2;have hlp:=aIB hc c.2.2.2.1.length 0 [] pJ (fun x=>by rfl);rw[<-List.range_eq_range'] at hlp;have hlp':rE (M4 c) ((0:Int),[])=_:=hlp;have a1:decide ((1000:Int)<(c.2.2.2.1.length:Int))= !decide ((c.2.2.2.1.length:Int)<=1000):=by rw[<-decide_not];exact aW8.2 pJ
 unfold M5;rw[a9f,aU7,t1,t2,e2,aU8 xK,aU8 xK,hlp',a1];unfold yP;show (if (((!uM c.1)||(!xL c.2.1))||(!xM c.2.2.1)||_)=true then some false else _)=_
 generalize uM c.1=b1;generalize xL c.2.1=b2;generalize xM c.2.2.1=b3;generalize decide ((c.2.2.2.1.length:Int)<=1000)=b4;generalize (List.range c.2.2.2.1.length).any (IP c.2.2.2.1)=b5;cases b1<;>cases b2<;>cases b3<;>cases b4<;>cases b5<;>rfl
def wB:Nat:=140737488351232
def aIC {l:pH}(hl:l.length<=wB) (hx: ∀x∈l,x.length<=wB): ∀(m i:Nat) (n:Int),i+m=l.length->0<=n->n<=1125899906842624->
  ∃r,rE (JJ l) (n,(i:Int))=some r/\n<=r/\r<=1125899906842624/\(r<1099511627776->∀x∈l.drop i,n+(x.length:Int)<=r)
 |0,i,n,hi,h0,h1=>by
  have:i=l.length:=by omega
  subst this;refine⟨n,wW ?_,aVW _,h1,fun _ x hx=>by rw[aVR] at hx;cases hx⟩;unfold JJ;dsimp only;rw[aVa pL]
 |m+1,i,n,hi,h0,h1=>by
  have h:i<l.length:=by omega
  by_cases hn:n<1099511627776
  .have hxi:=hx _ (aV9 h);unfold wB at hxi hl;have hst:JJ l (n,(i:Int))=some (.inl (n+(l[i].length:Int),((i+1:Nat):Int))):=by
    unfold JJ;dsimp only;rw[aU8 (by simp [h,hn]),aU8 (sN h),z6 (t:= .str) h,aU8 (by unfold qJ;omega),aU8 (by unfold qJ;omega)];rfl
   obtain⟨r,e,e1,e2,e3⟩:=aIC (by unfold wB;exact hl) hx m (i+1) (n+(l[i].length:Int)) pJ pJ pJ;refine⟨r,by rw[HR hst,e],pJ,e2,fun hr x hxm=> ?_⟩;rw[aVA h] at hxm;rcases aVs.1 hxm with rfl|hxm
   .omega
   .have:=e3 hr x hxm;omega
  .refine⟨n,wW ?_,aVW _,h1,fun hr=>by omega⟩;unfold JJ;dsimp only;rw[aVa (by simp [hn])]
def aID {l:List s7}(hl:l.length<=wB) (hx: ∀x∈l,x.1.length<=wB/\x.2.1.length<=wB): ∀(m i:Nat) (n:Int),i+m=l.length->0<=n->n<=1125899906842624->
  ∃r,rE (JK l) (n,(i:Int))=some r/\n<=r/\r<=1125899906842624/\(r<1099511627776->∀x∈l.drop i,n+(x.1.length:Int)+(x.2.1.length:Int)<=r)
 |0,i,n,hi,h0,h1=>by
  have:i=l.length:=by omega
  subst this;refine⟨n,wW ?_,aVW _,h1,fun _ x hx=>by rw[aVR] at hx;cases hx⟩;unfold JK;dsimp only;rw[aVa pL]
 |m+1,i,n,hi,h0,h1=>by
  have h:i<l.length:=by omega
  by_cases hn:n<1099511627776
  .have hxi:=hx _ (aV9 h);unfold wB at hxi hl;have hst:JK l (n,(i:Int))=some (.inl (n+(l[i].1.length:Int)+(l[i].2.1.length:Int),((i+1:Nat):Int))):=by
    unfold JK;dsimp only;rw[aU8 (by simp [h,hn]),aU8 (sN h),z6 (t:= .pair .str (.pair .str .unit)) h,aU8 (by unfold qJ;omega),aU8 (sN h),aU8 (by unfold qJ;omega),aU8 (by unfold qJ;omega)];rfl
   obtain⟨r,e,e1,e2,e3⟩:=aID (by unfold wB;exact hl) hx m (i+1) (n+(l[i].1.length:Int)+(l[i].2.1.length:Int)) pJ pJ pJ;refine⟨r,by rw[HR hst,e],pJ,e2,fun hr x hxm=> ?_⟩;rw[aVA h] at hxm;rcases aVs.1 hxm with rfl|hxm
   .omega
   .have:=e3 hr x hxm;omega
  .refine⟨n,wW ?_,aVW _,h1,fun hr=>by omega⟩;unfold JK;dsimp only;rw[aVa (by simp [hn])]
def GX (l:pH):Prop:=l.length<=6000/\∀x∈l,x.length<=6000
def KH (l:List s7):Prop:=l.length<=6000/\∀x∈l,x.1.length<=6000/\x.2.1.length<=6000
def aIE {l:pH}{f:List s7}(hl:l.length<=wB) (hx: ∀x∈l,x.length<=wB) (hf:f.length<=wB) (hy: ∀x∈f,x.1.length<=wB/\x.2.1.length<=wB):
  ∃r,zM l f=some r/\0<=r/\r<=1125899906842624/\(r<=6000->GX l/\KH f):=by
 have hl':=hl;have hf':=hf;unfold wB at hl' hf';obtain⟨r,e,e1,e2,e3⟩:=aIC hl hx l.length 0 ((l.length:Int)+(f.length:Int)) pJ pJ pJ;obtain⟨r',k,k1,k2,k3⟩:=aID hf hy f.length 0 r pJ pJ e2;have e':rE (JJ l) ((l.length:Int)+(f.length:Int),(0:Int))=some r:=e;have k':rE (JK f) (r,(0:Int))=some r':=k;refine⟨r',?_,pJ,k2,fun hr=>⟨⟨pJ,fun x hxm=> ?_⟩,⟨pJ,fun x hxm=> ?_⟩⟩⟩
 .unfold zM;rw[aU8 (by unfold qJ;omega),e'];unfold sB;rw[aU7,k',aU7]
 .have:=e3 pJ x (by rw[aWf];exact hxm);omega
 .have:=k3 pJ x (by rw[aWf];exact hxm);omega
structure a9I (x:t6):Prop where
 id:x.1.length<=wB
 src:x.2.1.length<=wB
 tgt:x.2.2.1.length<=wB
 com:x.2.2.2.1.length<=wB/\∀y∈x.2.2.2.1,y.length<=wB
 flg:x.2.2.2.2.1.length<=wB/\∀y∈x.2.2.2.2.1,y.length<=wB
 fld:x.2.2.2.2.2.2.1.length<=wB/\∀y∈x.2.2.2.2.2.2.1,y.1.length<=wB/\y.2.1.length<=wB
structure MN (x:t6):Prop where
 id:x.1.length<=6000
 src:x.2.1.length<=6000
 tgt:x.2.2.1.length<=6000
 com:GX x.2.2.2.1
 flg:GX x.2.2.2.2.1
 fld:KH x.2.2.2.2.2.2.1
def aQK (x:t6) (h:a9I x): ∃b:Bool,OJ x=some ()/\
  ((decide ((((x.1.length:Int)+(x.2.1.length:Int))+(x.2.2.1.length:Int))<=(6000:Int)))&&(decide (((val (zM x.2.2.2.1 x.2.2.2.2.2.2.1))+(val (zM x.2.2.2.2.1 ([]:List r5))))<=(6000:Int))))=b/\(b=true->MN x):=by
 obtain⟨r,e,e1,e2,e3⟩:=aIE h.com.1 h.com.2 h.fld.1 h.fld.2;obtain⟨r',k,k1,k2,k3⟩:=aIE (f:=[]) h.flg.1 h.flg.2 (by unfold wB;simp) (fun x hx=>by cases hx);have a1:=h.id;have a2:=h.src;have a3:=h.tgt;unfold wB at a1 a2 a3;refine⟨_,?_,rfl,fun hb=> ?_⟩
 .unfold OJ;rw[e,k,aU8 (by unfold qJ;omega),aU8 (by unfold qJ;omega),aU8 xK,aU8 xK,aU8 (fun _=>by show qJ (r+r');unfold qJ;omega)]
 .rw[e,k] at hb;simp only[aVg,aVf] at hb;obtain⟨h1,h2⟩:=hb;have h2:r+r'<=6000:=h2;obtain⟨p,q⟩:=e3 pJ;obtain⟨p',_⟩:=k3 pJ;exact⟨pJ,pJ,pJ,p,p',q⟩
structure YI (c:C4):Prop where
 tag:c.1.length<=100
 com:GX c.2.1
 fld:KH c.2.2.1
 len:c.2.2.2.1.length<=1000
 ent: ∀x∈c.2.2.2.1,MN x
def KI {l:pG}(h:l.length<=6000):r8 l:=by unfold r8;omega
def a9J {l:pH}(h:GX l):r8 l/\∀y∈l,r8 y:=⟨by have:=h.1;unfold r8;omega,fun y hy=>KI (h.2 y hy)⟩
def aIF {l:List s7}(h:KH l):r8 l/\∀y∈l,SV y:=⟨by have:=h.1;unfold r8;omega,fun y hy=>⟨KI (h.2 y hy).1,KI (h.2 y hy).2⟩⟩
def MN.fitP {x:t6}(h:MN x):Y2 x:=⟨KI h.id,KI h.src,KI h.tgt,a9J h.com,a9J h.flg,aIF h.fld⟩
def YI.fitP {c:C4}(h:YI c):a9H c:=⟨KI (by have:=h.tag;omega),a9J h.com,aIF h.fld,by have:=h.len;omega,fun x hx=>(h.ent x hx).fitP⟩
def aIG {σ ρ α:Type}{f:σ->Option (σ⊕ρ)}(st:Int->List α->σ) (out:List α->ρ) {n M B:Nat}(g:Nat->List α) (hg: ∀i,i<n->(g i).length<=B)
  (hf: ∀(i:Nat) s,i<n->s.length+B<=M->f (st i s)=some (.inl (st ((i:Int)+1) (s++g i)))) (he: ∀s,f (st n s)=some (.inr (out s))):
  ∀(k i:Nat) (s:List α),i+k=n->s.length+k*B<=M->rE f (st i s)=some (out (s++(List.range' i k).flatMap g))
 |0,i,s,hi,_=>by
  have:i=n:=by omega
  subst this;rw[wW (he s)];simp
 |k+1,i,s,hi,hM=>by
  rw[aWi] at hM;have hgi:=hg i pJ;rw[HR (hf i s pJ pJ),show ((i:Int)+1)=((i+1:Nat):Int) by omega,aIG st out g hg hf he k (i+1) (s++g i) pJ (by rw[aVc];omega),aWU,aWC,aVi]
def aIH {α:Type}{g:Nat->List α}{B:Nat}: ∀(k i:Nat),(∀j,i<=j->j<i+k->(g j).length<=B)->((List.range' i k).flatMap g).length<=k*B
 |0,i,_=>by simp
 |k+1,i,h=>by
  rw[aWU,aWC,aVc,aWi];have h1:=aIH k (i+1) fun j h1 h2=>h j pJ pJ;have h2:=h i pJ pJ;omega
def TC {σ ρ α:Type}{f:σ->Option (σ⊕ρ)}(st:Int->List α->σ) (out:List α->ρ) {n M B:Nat}(g:Nat->List α) (hg: ∀i,i<n->(g i).length<=B) (s:List α) (hM:s.length+n*B<=M)
  (hf: ∀(i:Nat) s,i<n->s.length+B<=M->f (st i s)=some (.inl (st ((i:Int)+1) (s++g i)))) (he: ∀s,f (st n s)=some (.inr (out s))):
  rE f (st 0 s)=some (out (s++(List.range' 0 n).flatMap g)):=aIG st out g hg hf he n 0 s pJ hM
def YJ {α β:Type}{l:List α}{d:α}(h:α->List β):(List.range' 0 l.length).flatMap (fun i=>h (l.getD i d))=l.flatMap h:=by
 have e:(List.range' 0 l.length).map (fun i=>l.getD i d)=l:=by
  apply List.ext_getElem
  .simp
  .intro i h1 h2;simp [aVy,h2]
 conv=>rhs;rw[<-e]
 rw[List.flatMap_map]
def PR {α β:Type}{l:List α}{h:α->List β}{B:Nat}(hb: ∀x∈l,(h x).length<=B):(l.flatMap h).length<=l.length*B:=by
 induction l with
 |nil=>simp
 |cons x l ih=>
  rw[aWC,aVc,aVd,aWi];have h1:=hb x aVw;have h2:=ih fun y hy=>hb y (aVr _ hy);omega
def w5 (n b:Nat) (first:Bool):pG:=(I8 (n:Int) (b:Int) first).getD []
def aQL:((List.range 256).all fun b=>[true,false].all fun f=>decide (I8 3 (b:Int) f=some (w5 3 b f))&&(decide (X8 3 (b:Int) f=some (w5 3 b f))&&decide ((w5 3 b f).length<=6)))=true:=by kernel_rfl
def aQM:((List.range 256).all fun b=>[true,false].all fun f=>decide (I8 1 (b:Int) f=some (w5 1 b f))&&(decide (X8 1 (b:Int) f=some (w5 1 b f))&&decide ((w5 1 b f).length<=6)))=true:=by kernel_rfl
def aII {n b:Nat}(hn:n=1\/n=3) (hb:b<256) (f:Bool):I8 (n:Int) (b:Int) f=some (w5 n b f)/\X8 (n:Int) (b:Int) f=some (w5 n b f)/\(w5 n b f).length<=6:=by
 have hf:f∈[true,false]:=by cases f<;>simp
 rcases hn with rfl|rfl
 .have h:=aV4.1 (aV4.1 aQM b (by simpa using hb)) f hf;simpa using h
 .have h:=aV4.1 (aV4.1 aQL b (by simpa using hb)) f hf;simpa using h
def MO (n:Nat) (s:pG) (i:Nat):pG:=w5 n (s.getD i 0).toNat (decide (i=0))
def BJ (n:Nat) (s:pG):pG:=(List.range' 0 s.length).flatMap (MO n s)
def aIJ {n:Nat}(hn:n=1\/n=3) (s:pG) (i:Nat):(MO n s i).length<=6:=(aII hn (UInt8.toNat_lt _) _).2.2
def aIK {n:Nat}(hn:n=1\/n=3) (s:pG):(BJ n s).length<=6*s.length:=by
 have:=aIH (g:=MO n s) (B:=6) s.length 0 fun j _ _=>aIJ hn s j;unfold BJ;omega
def aQN {s:pG}{i:Nat}:r7 s (i:Int)=((s.getD i 0).toNat:Int):=by unfold r7;rw[aVN]
def aQO {i:Nat}:decide ((i:Int)=0)=decide (i=0):=aW8.2 pJ
def aQP {l:pT}{g:Nat->pG}:l.flatMap (fun i=>tV (g i))=tV (l.flatMap g):=by
 induction l with
 |nil=>rfl
 |cons x l ih=>rw[aWC,aWC,Y6,ih]
def aIL (l:pG):(tV l).length=l.length:=by simp [tV]
def aQQ {n:Nat}(hn:n=1\/n=3) {s:pG}(hs:r8 s):JX (n:Int) s=some (BJ n s):=by
 unfold r8 at hs;have hn4: ¬decide ((n:Int)=4)=true:=by simp;omega
 have h:=TC (f:=S6 (n:Int) s) (fun i b=>(i,b)) (fun b=>b) (n:=s.length) (M:=10000000000000) (B:=6) (fun i=>tV (MO n s i)) (fun i _=>by rw[aIL];exact aIJ hn s i) [] pM (fun i b hi hM=>by
  obtain⟨e1,_,e3⟩:=aII hn (UInt8.toNat_lt (s.getD i 0)) (decide (i=0));unfold S6;dsimp only;rw[aU8 (uI hi),aVa hn4,aU8 (sN hi),aQN,aQO,e1,aU7];unfold ED;rw[aU8 (by dsimp only;omega),aU7,aU8 (tN pJ)];rfl) (fun b=>by
  unfold S6;dsimp only;rw[aVa (vZ _)])
 unfold JX;rw[aVa pM,h,aQP];unfold sB;rw[aU7,List.nil_append,Y7];rfl
def C2 (h:pG) (l:pH) (t:pG):pG:=h++(l.flatten++t)
def aIM {f:(Int×pG)->pP->Option (pP⊕pG)}(hf: ∀it b,b.length+it.2.length<=140737488355328->f it b=some (.inl (b++tV it.2))): ∀(l:List (Int×pG)) (b:pP),
  b.length+((l.map (·.2)).flatten).length<=140737488355328->F8 f l b=some (.inl (b++tV (l.map (·.2)).flatten))
 |[],b,_=>by simp [F8,tV]
 |it::l,b,h=>by
  simp only[aWq,aWN,aVc] at h;unfold F8;rw[hf it b pJ,aU7];show F8 f l _=_;rw[aIM hf l _ (by rw[aVc,aIL];omega)];simp only[aWq,aWN,Y6,aVi]
def aIN (d:JC):((DB d).map (·.2)).flatten=C2 d.1 d.2.1 d.2.2.1:=by
 unfold DB C2;have e:(List.range d.2.1.length).map (fun j=>d.2.1.getD j [])=d.2.1:=by
  apply List.ext_getElem
  .simp
  .intro i h1 h2;simp [aVy,h2]
 have e2:(((List.range d.2.1.length).map fun j:Nat=>((j:Int)+1,d.2.1.getD j [])).map (·.2))=d.2.1:=by
  rw[List.map_map];exact e
 simp only[aWq,List.map_append,List.map_nil,aWN,List.flatten_append,List.flatten_nil,List.append_nil,e2,aVi]
def aIO (d:JC) (hl:d.2.1.length<=900000) (hb:(C2 d.1 d.2.1 d.2.2.1).length<=140737488355328):JP d=some (C2 d.1 d.2.1 d.2.2.1):=by
 have h:=aIM (f:=X3) (fun it b h=>by
  unfold X3 ED;rw[aU8 h,aU7]) (DB d) [] (by rw[aIN];simpa using hb)
 unfold JP;rw[aU8 pJ,h,aIN];unfold sZ;dsimp only;rw[aU7];simp only[List.nil_append,Y7]
def ER (n:Nat):Bool->pG->pG
 |_,[]=>[]
 |f,b::t=>w5 n b.toNat f++ER n false t
def aIP (n:Nat): ∀(s:pG) (p:pG),p≠[]->(List.range' p.length s.length).flatMap (MO n (p++s))=ER n false s
 |[],p,_=>by simp [ER]
 |b::t,p,hp=>by
  have hl:0<p.length:=aWB.2 hp;rw[aVd,aWU,aWC];have h1:MO n (p++b::t) p.length=w5 n b.toNat false:=by
   unfold MO;rw[show decide (p.length=0)=false by simp;exact hp];congr 2;rw[aVy,aVl (aVp _),aXd];rfl
  have h2:=aIP n t (p++[b]) pL;rw[aVc,aVT,aVi,aV2] at h2;rw[h1,h2];rfl
def aIQ (n:Nat) (s:pG):BJ n s=ER n true s:=by
 cases s with
 |nil=>rfl
 |cons b t=>
  unfold BJ;rw[aVd,aWU,aWC];have h2:=aIP n t [b] pL;rw[aVT,aV2] at h2;rw[aVF,h2];rfl
def aQR {e:pG}(t:pG) (h:(yA e).2=e.length) (h0:e≠[]):yA (e++t)=yA e:=by
 match e,h,h0 with
 |[a],h,_=>simp [yA] at h
 |a::c::u,h,_=>
  show yA (a::c::(u++t))=yA (a::c::u);simp only[yA] at h|-;split
  .rfl
  .rename_i h1;rw[aVa h1] at h;split
   .rfl
   .rename_i h2;rw[aVa h2] at h;split
    .rfl
    .rename_i h3;rw[aVa h3] at h;split
     .rfl
     .rename_i h4;rw[aVa h4] at h;by_cases hx:c=120/\2<=u.length
      .rw[aU8 hx,aU8 ⟨hx.1,by rw[aVc];omega⟩,aV5 hx.2]
      .rw[aVa hx] at h|-;by_cases hu:c=117/\4<=u.length
       .have: ¬(c=120/\2<=(u++t).length):=fun hh=>by
         have:=hu.1.symm.trans hh.1;exact absurd this pK
        rw[aVa this,aU8 hu,aU8 ⟨hu.1,by rw[aVc];omega⟩,aV5 hu.2]
       .rw[aVa hu] at h;simp at h
def aQS {n:Int}{e:pG}(t:pG) (h:(tZ n e).2=e.length) (h0:e≠[]):tZ n (e++t)=tZ n e:=by
 match e,h,h0 with
 |b::u,h,_=>
  show tZ n (b::(u++t))=_;by_cases hb:b=92
  .rw[PI hb] at h|-;rw[PI hb];exact aQR (e:=b::u) t h pL
  .by_cases hk:BI n b=true
   .rw[MF hb hk,MF hb hk]
   .rw[PJ hb hk,PJ hb hk]
def aQT:((List.range 256).all fun b=>[true,false].all fun f=>decide (tZ 3 (w5 3 b f)=([b.toUInt8],(w5 3 b f).length))&&(decide (w5 3 b f≠[])&&decide (sU 34 (w5 3 b f++[34])=some (w5 3 b f).length)))=true:=by kernel_rfl
def aQU:((List.range 256).all fun b=>[true,false].all fun f=>decide (tZ 1 (w5 1 b f)=([b.toUInt8],(w5 1 b f).length))&&(decide (w5 1 b f≠[])&&decide (sU 61 (w5 1 b f++[61])=some (w5 1 b f).length)))=true:=by kernel_rfl
def PS (n:Nat):UInt8:=if n=1 then 61 else 34
def aIR {n:Nat}(hn:n=1\/n=3) (b:UInt8) (f:Bool):tZ (n:Int) (w5 n b.toNat f)=([b],(w5 n b.toNat f).length)/\w5 n b.toNat f≠[]/\sU (PS n) (w5 n b.toNat f++[PS n])=some (w5 n b.toNat f).length:=by
 have hf:f∈[true,false]:=by cases f<;>simp
 have hb:b.toNat<256:=UInt8.toNat_lt b;have hbb:b.toNat.toUInt8=b:=by simp
 rcases hn with rfl|rfl
 .have h:=aV4.1 (aV4.1 aQU b.toNat (by simpa using hb)) f hf;simp only[aVg,aVf,hbb] at h;exact⟨h.1,h.2.1,h.2.2⟩
 .have h:=aV4.1 (aV4.1 aQT b.toNat (by simpa using hb)) f hf;simp only[aVg,aVf,hbb] at h;exact⟨h.1,h.2.1,h.2.2⟩
def aIS {n:Nat}(hn:n=1\/n=3): ∀(s:pG) (f:Bool) (k:Nat),(ER n f s).length<=k->xV (n:Int) k (ER n f s)= .inl s
 |[],f,k,_=>by
  cases k<;>rfl
 |b::t,f,k,hk=>by
  obtain⟨h1,h2,_⟩:=aIR hn b f;unfold ER at hk|-;obtain⟨e,he⟩: ∃e,w5 n b.toNat f=e:=⟨_,rfl⟩;rw[he] at h1 h2 hk|-;have hp:=aQS (ER n false t) (by rw[h1]) h2;rw[h1] at hp;rw[aVc] at hk;have hl:0<e.length:=aWB.2 h2;obtain⟨k',rfl⟩: ∃k',k=k'+1:=⟨k-1,pJ⟩;obtain⟨a,u,rfl⟩: ∃a u,e=a::u:=by
   cases e with
   |nil=>exact absurd rfl h2
   |cons a u=>exact⟨a,u,rfl⟩
  rw[List.cons_append] at hp|-;unfold xV;rw[hp,aVa pL];dsimp only;rw[<-List.cons_append,aWR,aIS hn t false k' pJ];rfl
def aQV {n:Nat}(hn:n=1\/n=3) (s:pG):yK (n:Int) (BJ n s)=(s,0,0):=by
 unfold yK;rw[aIQ,aIS hn s true _ (aVp _)]
def a9K {d:UInt8}: ∀(m:Nat) (e t:pG),e.length<=m->sU d (e++[d])=some e.length->sU d (e++t)=(sU d t).map (· +e.length)
 |_,[],t,_,_=>by simp
 |0,_::_,_,h,_=>by simp at h
 |m+1,b::u,t,hm,h=>by
  rw[List.cons_append] at h|-;rw[aVd] at hm;by_cases hb:b=d
  .rw[MB hb] at h;simp at h
  .by_cases h9:b=92
   .rw[MC hb h9] at h;rw[MC hb h9];cases u with
    |nil=>simp [PG] at h
    |cons c v=>
     simp only[List.cons_append,aWS,aWf] at h|-;rw[aVd] at hm;have h':sU d (v++[d])=some v.length:=by
      cases hq:sU d (v++[d]) with
      |none=>rw[hq] at h;cases h
      |some k=>rw[hq] at h;simp at h;rw[h]
     rw[a9K m v t pJ h',Option.map_map];congr 1
   .rw[MD hb h9] at h;rw[MD hb h9];have h':sU d (u++[d])=some u.length:=by
     cases hq:sU d (u++[d]) with
     |none=>rw[hq] at h;cases h
     |some k=>rw[hq] at h;simp at h;rw[h]
    rw[a9K m u t pJ h',Option.map_map];congr 1
def aIT {n:Nat}(hn:n=1\/n=3): ∀(s:pG) (f:Bool) (t:pG),sU (PS n) (ER n f s++t)=(sU (PS n) t).map (· +(ER n f s).length)
 |[],f,t=>by simp [ER]
 |b::u,f,t=>by
  obtain⟨_,_,h3⟩:=aIR hn b f;unfold ER;rw[aVi,a9K _ _ _ (aVp _) h3,aIT hn u false t,Option.map_map];congr 1;funext k;simp only[Function.comp,aVc];omega
def aQW {n:Nat}(hn:n=1\/n=3) (s z:pG):sU (PS n) (BJ n s++PS n::z)=some (BJ n s).length:=by
 rw[aIQ,aIT hn,MB rfl];simp
abbrev H12:=Int×Int×pG×Int×Int×Int×Int×pG×pH×List s7×pP×Int
abbrev H7:=Int×Int×Int×pG×pH×List s7×pP
def aQX (s:pG) (P:Nat) (a bad:Int) (ends:pP) (po:H12) (ro:H7):Prop:=
 ∃(P':Nat) (tag:pG) (cm:pH) (fd:List s7),P<P'/\P'<=s.length/\
  po=((nS s P':Int),kS s P',xS s P',(fS s P':Int),(nS s P':Int),a,0,tag,cm,fd,ends++[(P':Int)],(P':Int))/\
  ro=((P':Int),bad,0,tag,cm,fd,ends++[(P':Int)])/\r8 cm/\r8 fd
def aQY (po:H12) (ro:H7):Prop:=po.2.2.2.2.2.2.1≠0/\ro.2.1=po.2.2.2.2.2.1/\ro.2.2.1=po.2.2.2.2.2.2.1
section
variable {s:pG}(hsm:s.length<=4000000000) {P:Nat}(hP:P<=s.length) {a en bad:Int}{c c2:C4}{ends:pP}(hends:ends.length<=5000) {ids:pN}
include hsm hP hends
theorem aIU: ∃po ro,zB (s,((nS s P:Int),())) (kS s P,(xS s P,((fS s P:Int),((nS s P:Int),())))) a 0 c (ends,(en,())) ids=some po/\
  CU (s,((P:Int),(bad,(0,(c2,(ends,()))))))=some ro/\(aQX s P a bad ends po ro\/aQY po ro):=by
 have hQ:=(tC hP).2;have hR:=(tC hQ).2;unfold zB CU;rw[T4 hsm hQ,aU7,AK hsm hP,aU7];by_cases h0:kS s P=2/\xS s P=[99,97,116,97,108,111,103]
 .have hPQ:P<nS s P:=wS pJ pJ;rw[aU8 h0,EQ rfl,vJ (by rw[(yM pK pK).2 h0.1,h0.2];decide)];unfold uT;dsimp only;rw[aPW hsm hR,aU7,AL hsm hQ pK pK,aU7];by_cases hk1:kS s (nS s P)=1
  .have hQR:nS s P<nS s (nS s P):=wS pJ pJ;rw[vJ (by simpa using hk1)];dsimp only;rw[M9 _ (KC hsm hQ),aU8 vS];by_cases ht:uM (xS s (nS s P))=true
   .rw[EL (by simp [hk1,ht]) pL pL,EQ rfl];rw[aVa (show¬(decide ((0:Int)=0)&& !val (some (uM (xS s (nS s P)))))=true from by rw[ht];decide)];unfold uT sB;rw[aU7];dsimp only;obtain⟨po,ro,hpo,hro,h5⟩:=aIx (c:=(xS s (nS s P),(c.2.1,(c.2.2.1,(c.2.2.2.1,()))))) (c2:=c2) (a:=a) (en:=(nS s (nS s P):Int)) (bad:=bad) (i1:=[]) (ids:=ids) (hd:=false) hsm hR hends hends;rw[hpo,aU7,show true= !false from rfl,hro,aU7];refine⟨_,_,rfl,rfl,?_⟩;rcases h5 with⟨P',sr,tg,cm,fg,st,fd,g1,g2,rfl,rfl,f1,f2,f3⟩ |⟨g1,g2,g3⟩
    .exact .inl ⟨P',_,_,_,pJ,g2,rfl,rfl,f1,f3⟩
    .exact .inr ⟨g1,g2,g3⟩
   .rw[AJ (by simp [ht]),yO pK];rw[aU8 (show (decide ((0:Int)=0)&& !val (some (uM (xS s (nS s P)))))=true from by rw[show uM (xS s (nS s P))=false from by simpa using ht];decide)];unfold sH;rw[wR];unfold sB;rw[aU7];dsimp only;obtain⟨po,hpo,h1,h2⟩:=KF (s:=s) (at0:=(nS s (nS s P):Int)) (c:=(xS s (nS s P),(c.2.1,(c.2.2.1,(c.2.2.2.1,()))))) (a:=(fS s (nS s P):Int)) (en:=(nS s P:Int)) (k:=kS s (nS s P)) (x:=xS s (nS s P)) (f:=(fS s (nS s P):Int)) (t:=(nS s (nS s P):Int)) (ids:=ids) (hd:=false) hends (show (3:Int)≠0 by decide);obtain⟨ro,hro,g1,g2⟩:=IN (P:=nS s (nS s P)) (c2:=c2) (bad:=(fS s (nS s P):Int)) (e:=3) (ends2:=ends) (hd:=true) (i:=i0 []) hsm hR pK;rw[hpo,aU7,hro,aU7];exact⟨_,_,rfl,rfl,.inr ⟨by show po.2.2.2.2.2.2.2.2.2.2.2.2.1≠0;rw[h2];decide,g1.trans h1.symm,g2.trans h2.symm⟩⟩
  .rw[xN (by simpa using hk1),AJ (by simp [hk1]),yO pK];dsimp only;rw[M9 _ (KC hsm hQ),aU8 vS,aVa (show¬(decide ((3:Int)=0)&& !val (some (uM (xS s (nS s P)))))=true from by simp)];unfold sB;rw[aU7];dsimp only;obtain⟨po,hpo,h1,h2⟩:=KF (s:=s) (at0:=(nS s (nS s P):Int)) (c:=(xS s (nS s P),(c.2.1,(c.2.2.1,(c.2.2.2.1,()))))) (a:=(fS s (nS s P):Int)) (en:=(nS s P:Int)) (k:=kS s (nS s P)) (x:=xS s (nS s P)) (f:=(fS s (nS s P):Int)) (t:=(nS s (nS s P):Int)) (ids:=ids) (hd:=false) hends (show (3:Int)≠0 by decide);obtain⟨ro,hro,g1,g2⟩:=IN (P:=nS s P) (c2:=c2) (bad:=(fS s (nS s P):Int)) (e:=3) (ends2:=ends) (hd:=true) (i:=i0 []) hsm hQ pK;rw[hpo,aU7,hro,aU7];exact⟨_,_,rfl,rfl,.inr ⟨by show po.2.2.2.2.2.2.2.2.2.2.2.2.1≠0;rw[h2];decide,g1.trans h1.symm,g2.trans h2.symm⟩⟩
 .rw[aVa h0,yO pK,xN (by simp only[aVg,aVZ,aVf,yM (show (2:Int)≠0 by decide) (show (2:Int)≠4 by decide)];intro hh;rcases hh with⟨u,v|v⟩;exact absurd v pK;exact h0 ⟨u,v⟩)]
  dsimp only;rw[aPX pK,aU7,KB hsm hP pK,aU7];dsimp only;rw[M9 _ (KC hsm hP),aU8 vS,aVa (show¬(decide ((3:Int)=0)&& !val (some (uM (xS s P))))=true from by simp)];unfold sB;rw[aU7];dsimp only;obtain⟨po,hpo,h1,h2⟩:=KF (s:=s) (at0:=(nS s P:Int)) (c:=(xS s P,(c.2.1,(c.2.2.1,(c.2.2.2.1,()))))) (a:=(fS s P:Int)) (en:=en) (k:=kS s P) (x:=xS s P) (f:=(fS s P:Int)) (t:=(nS s P:Int)) (ids:=ids) (hd:=false) hends (show (3:Int)≠0 by decide);obtain⟨ro,hro,g1,g2⟩:=IN (P:=P) (c2:=c2) (bad:=(fS s P:Int)) (e:=3) (ends2:=ends) (hd:=true) (i:=i0 []) hsm hP pK;rw[hpo,aU7,hro,aU7];exact⟨_,_,rfl,rfl,.inr ⟨by show po.2.2.2.2.2.2.2.2.2.2.2.2.1≠0;rw[h2];decide,g1.trans h1.symm,g2.trans h2.symm⟩⟩
end
theorem PT {α:Type}:r8 ([]:List α):=by unfold r8;exact aVX _
theorem aQZ {l:pG}:(tX l).1=4↔l=[]:=by
 cases l with
 |nil=>exact⟨fun _=>rfl,fun _=>rfl⟩
 |cons b t=>
  refine⟨fun h=> ?_,fun h=>by cases h⟩;exfalso;by_cases h1:b=123\/b=125
  .rw[FT h1] at h;exact absurd h (show¬(3:Int)=4 by decide)
  .by_cases h2:b=34
   .rw[DM h1 h2] at h;unfold x9 at h;cases he:sU 34 t with
    |none=>rw[he] at h;exact absurd h (show¬(0:Int)=4 by decide)
    |some n=>
     rw[he] at h;dsimp only at h;split at h
     .exact absurd h (show¬(0:Int)=4 by decide)
     .exact absurd h (show¬(1:Int)=4 by decide)
   .by_cases h3:yB b.toNat=true
    .rw[DN h1 h2 h3] at h;exact absurd h (show¬(2:Int)=4 by decide)
    .rw[K9 h1 h2 h3] at h;exact absurd h (show¬(0:Int)=4 by decide)
theorem k4 {s:pG}{P:Nat}(hP:P<=s.length):kS s P=4↔¬P+(G (s.drop P)).1<s.length:=by
 unfold kS tO;by_cases hg:(G (s.drop P)).2=true
 .rw[aU8 hg];dsimp only;rw[aQZ,aVQ,List.drop_eq_nil_iff];omega
 .rw[aVa hg];obtain⟨t,ht⟩:=T0 (s.drop P).length (s.drop P) (aVp _) (by simpa using hg);refine⟨fun h=>absurd h (show¬(0:Int)=4 by decide),fun h=> ?_⟩;rw[aVQ,List.drop_eq_nil_of_le pJ] at ht;cases ht
def KJ (P:Nat) (ends:pP):Prop:= ∃l:pT,ends=l.map (fun n:Nat=>(n:Int))/\l≠[]/\l.Pairwise (·<=·)/\∀x∈l,x<=P
theorem aQ0 {P P':Nat}{ends:pP}(h:KJ P ends) (hP:P<=P'):KJ P' (ends++[(P':Int)]):=by
 obtain⟨l,rfl,h1,h2,h3⟩:=h;refine⟨l++[P'],by rw[List.map_append];rfl,List.append_ne_nil_of_right_ne_nil _ (List.cons_ne_nil _ _),?_,fun x hx=> ?_⟩
 .rw[aWy];exact⟨h2,aWK _ _,fun x hx y hy=>by rw[aVm.1 hy];exact aV7 (h3 x hx) hP⟩
 .rcases aWa.1 hx with hx|hx
  .exact aV7 (h3 x hx) hP
  .rw[aVm.1 hx];exact aVp _
theorem aIV (P:Nat):KJ P [(P:Int)]:=⟨[P],rfl,List.cons_ne_nil _ _,aWK _ _,fun x hx=>by rw[aVm.1 hx];exact aVp _⟩
theorem aQ1 {P P':Nat}{ends:pP}(h:KJ P ends) (hP:P<=P'):KJ P' ends:=by
 obtain⟨l,h0,h1,h2,h3⟩:=h;exact⟨l,h0,h1,h2,fun x hx=>aV7 (h3 x hx) hP⟩
def aQ2 (n:Nat) (po:E11) (ro:E5):Prop:=
 (po.2.2.2.2.2.2.1=0/\ro.2.2.1=0/\ro.2.2.2.1=po.2.2.2.2.2.2.2.1/\ro.2.2.2.2=po.2.2.2.2.2.2.2.2.1/\po.2.2.2.2.2.2.2.1.length<=1000/\(∀y∈po.2.2.2.2.2.2.2.1,MM y)/\KJ n po.2.2.2.2.2.2.2.2.1/\po.2.2.2.2.2.2.2.2.1.length<=1001)\/aIz po ro
section
variable {s:pG}(hsm:s.length<=4000000000) {a bad:Int}{hp:H12}{hr:H7}
include hsm
theorem a9M: ∀(n P:Nat) (es:List rZ) (ends:pP) (en:Int) (ids:pN),
  s.length-P<=n->P<=s.length->es.length<=1000->ends.length<=es.length+1->PQ ids es->(∀y∈es,MM y)->KJ P ends->
  ∃po ro,rE (DJ s hp) ((nS s P:Int),kS s P,xS s P,(fS s P:Int),(nS s P:Int),a,0,es,ends,en,ids)=some po/\
   rE (vD s hr) ((P:Int),bad,0,es,ends)=some ro/\aQ2 s.length po ro
 |n,P,es,ends,en,ids,hn,hP,hes,hends,hids,hfs,hea=>by
  have hgap:=PM (KA hsm) hP;by_cases hk:kS s P=4
  .have hg:=(k4 hP).1 hk;have e1:DJ s hp ((nS s P:Int),kS s P,xS s P,(fS s P:Int),(nS s P:Int),a,0,es,ends,en,ids)=some (.inr ((nS s P:Int),kS s P,xS s P,(fS s P:Int),(nS s P:Int),a,0,es,ends,en,ids)):=by
    unfold DJ;dsimp only;rw[aVa (by simp [hk])]
   have e2:vD s hr ((P:Int),bad,0,es,ends)=some (.inr ((P:Int),bad,0,es,ends)):=by
    unfold vD;dsimp only;rw[hgap,aU8 vS,aVa (by show¬(decide ((0:Int)=0)&&decide (((P+(G (s.drop P)).1:Nat):Int)<(s.length:Int)))=true;simp;omega)]
   rw[vB e1,vB e2];exact⟨_,_,rfl,rfl,.inl ⟨rfl,rfl,rfl,rfl,hes,hfs,aQ1 hea hP,(show ends.length<=1001 by omega)⟩⟩
  .have hg:P+(G (s.drop P)).1<s.length:=by
    by_cases hh:P+(G (s.drop P)).1<s.length
    .exact hh
    .exact absurd ((k4 hP).2 hh) hk
   obtain⟨po,ro,hpo,hro,hres⟩:=a1o (a:=a) (en:=en) (bad:=bad) (t1:=hp.2.2.2.2.2.2.2.1) (t2:=hr.2.2.2.1) (cm1:=hp.2.2.2.2.2.2.2.2.1) (cm2:=hr.2.2.2.2.1) (fd1:=hp.2.2.2.2.2.2.2.2.2.1) (fd2:=hr.2.2.2.2.2.1) hsm hP (show ends.length<=5000 by omega) hids hes;have e1:DJ s hp ((nS s P:Int),kS s P,xS s P,(fS s P:Int),(nS s P:Int),a,0,es,ends,en,ids)=some (.inl po):=by
    unfold DJ;dsimp only;rw[aU8 (by simp [hk]),hpo,aU7]
   have e2:vD s hr ((P:Int),bad,0,es,ends)=some (.inl ro):=by
    unfold vD;dsimp only;rw[hgap,aU8 vS,aU8 (by show (decide ((0:Int)=0)&&decide (((P+(G (s.drop P)).1:Nat):Int)<(s.length:Int)))=true;simp;omega),hro,aU7]
   rw[AO e1,AO e2];rcases hres with⟨P',y,ids',g1,g2,g3,g4,rfl,rfl,g5⟩ |hb
   .match n,hn with
    |0,hn=>exact absurd g2 pJ
    |n+1,hn=>exact a9M n P' (es++[y]) (ends++[(P':Int)]) P' ids' pJ g2 pM pM g4 (fun z hz=>by rcases aWa.1 hz with hz|hz;exact hfs z hz;rw[aVm.1 hz];exact g5) (aQ0 hea pJ)
   .have e3:DJ s hp po=some (.inr po):=by
     unfold DJ;dsimp only;rw[aVa (by simp [hb.1])]
    have e4:vD s hr ro=some (.inr ro):=by
     have h3:ro.2.2.1≠0:=by rw[hb.2.2];exact hb.1
     unfold vD;dsimp only;rw[aU8 (by intro hh;simp [h3] at hh),aVa (by simp [h3])]
    rw[vB e3,vB e4];exact⟨_,_,rfl,rfl,.inr hb⟩
theorem aQ3: ∃r v,wP s=some r/\EI s=some v/\
  ((r.2.2.2.2.2.2.1=0/\v.2.2.2.2.2.2=0/\v.2.2.2.2.1=r.2.2.2.2.2.2.2.2.2.2.2.1/\KJ s.length r.2.2.2.2.2.2.2.2.2.2.2.1/\r.2.2.2.2.2.2.2.2.2.2.2.1.length<=1001)\/(r.2.2.2.2.2.2.1≠0/\v.2.2.2.2.2.2=r.2.2.2.2.2.2.1)):=by
 obtain⟨ph,rh,hph,hrh,hres⟩:=aIU (P:=0) (a:=0) (en:=0) (bad:=0) (c:=([],([],([],([],()))))) (c2:=([],([],([],([],()))))) (ends:=[]) (ids:=[]) hsm (aVX _) pK;have hnx:=a9y hsm (aVX s.length);have hnx':CS (s,((0:Int),()))=some (kS s 0,xS s 0,(fS s 0:Int),(nS s 0:Int),(nS s 0:Int)):=hnx;have hrh':CU (s,((0:Int),((0:Int),((0:Int),((([]:pG),(([]:pH),(([]:List r5),(([]:List rZ),())))),(([]:pP),()))))))=some rh:=hrh;unfold wP EI;rw[hnx',aU7]
 try dsimp only
 rw[hph,aU7,hrh',aU7];rcases hres with⟨P',tag,cm,fd,g1,g2,rfl,rfl,f1,f2⟩ |hb
 .obtain⟨po,ro,h1,h2,h3⟩:=a9M (a:=0) (bad:=0) (hp:=((nS s P':Int),kS s P',xS s P',(fS s P':Int),(nS s P':Int),0,0,tag,cm,fd,[]++[(P':Int)],(P':Int))) (hr:=((P':Int),0,0,tag,cm,fd,[]++[(P':Int)])) hsm s.length P' [] ([]++[(P':Int)]) (P':Int) [] pJ g2 pK pL (fun _=>rfl) (fun _ h=>by cases h) (aIV P')
  try dsimp only
  rw[h1,h2];unfold sB;rw[aU7,aU7]
  try dsimp only
  rcases h3 with⟨e1,e2,e3,e4,e5,e6,e7,e8⟩ |⟨e1,e2,e3⟩
  .rw[aVa (by simp [e2])];exact⟨_,_,rfl,rfl,.inl ⟨e1,rfl,e4,e7,e8⟩⟩
  .rw[aU8 (by simp [e3,e1])];exact⟨_,_,rfl,rfl,.inr ⟨e1,e3⟩⟩
 .obtain⟨b1,b2,b3⟩:=hb;have e3:DJ s ph (ph.1,ph.2.1,ph.2.2.1,ph.2.2.2.1,ph.2.2.2.2.1,ph.2.2.2.2.2.1,ph.2.2.2.2.2.2.1,[],ph.2.2.2.2.2.2.2.2.2.2.1,ph.2.2.2.2.2.2.2.2.2.2.2,[])=some (.inr (ph.1,ph.2.1,ph.2.2.1,ph.2.2.2.1,ph.2.2.2.2.1,ph.2.2.2.2.2.1,ph.2.2.2.2.2.2.1,[],ph.2.2.2.2.2.2.2.2.2.2.1,ph.2.2.2.2.2.2.2.2.2.2.2,[])):=by
   unfold DJ
   try dsimp only
   rw[aVa (by simp [b1])]
  have e4:vD s rh (rh.1,rh.2.1,rh.2.2.1,[],rh.2.2.2.2.2.2)=some (.inr (rh.1,rh.2.1,rh.2.2.1,[],rh.2.2.2.2.2.2)):=by
   have h3:rh.2.2.1≠0:=by rw[b3];exact b1
   unfold vD
   try dsimp only
   rw[aU8 (by intro hh;simp [h3] at hh),aVa (by simp [h3])]
  rw[vB e3,vB e4];unfold sB;rw[aU7,aU7]
  try dsimp only
  rw[aU8 (by simp [b3,b1])];exact⟨_,_,rfl,rfl,.inr ⟨b1,b3⟩⟩
end
set_option maxRecDepth 1000000
def aQ4:P9=some true:=by kernel_rfl
theorem aIW {σ ρ:Type}{f:σ->Option (σ⊕ρ)}{n:Nat}(st:Nat->σ) {r:ρ}(h: ∀i,i<n->f (st i)=some (.inl (st (i+1)))) (he:f (st n)=some (.inr r)): ∀(k i:Nat),i+k=n->rE f (st i)=some r
 |0,i,hi=>by
  have:i=n:=by omega
  subst this;exact vB he
 |k+1,i,hi=>by
  rw[AO (h i pJ)];exact aIW st h he k (i+1) pJ
abbrev pc (s:pG) (l:pT) (i:Nat):pG:=qV s ((if i=0 then 0 else l.getD (i-1) 0:Nat):Int) (l.getD i 0:Nat)
abbrev DQ (s:pG) (l:pT):pH:=(List.range l.length).map (pc s l)
abbrev IQ (l:pT):Nat:=l.getD (l.length-1) 0
section
variable {s:pG}(hsm:s.length<=4000000000) {l:pT}(hne:l≠[]) (hs:l.Pairwise (·<=·)) (hle: ∀x∈l,x<=s.length) (hl:l.length<=5000)
theorem YK {i:Nat}(h:i<l.length):rC (.int .i64) (l.map (fun n:Nat=>(n:Int))) (i:Int)=(l.getD i 0:Nat):=by
 rw[z6 (t:= .int .i64) (by simpa using h),List.getElem_map,aVy,aVj h];rfl
include hle in
theorem YL {i:Nat}(h:i<l.length):l.getD i 0<=s.length:=by
 rw[aVy,aVj h];exact hle _ (aV9 h)
include hs in
theorem aIX {i j:Nat}(hij:i<j) (h:j<l.length):l.getD i 0<=l.getD j 0:=by
 rw[aVy,aVy,aVj h,aVj pJ];exact(aWe.1 hs) i j pJ h hij
include hs in
include hsm hne hs hle hl in
include hsm hne hs hle hl in
theorem aQ5 {r:Int×Int×pG×Int×Int×Int×Int×pG×pH×List r5×List rZ×pP×Int×pN}(hr:r.2.2.2.2.2.2.2.2.2.2.2.1=l.map (fun n:Nat=>(n:Int))):
  rE (P0 s r) (1,[])=some ((DQ s l).drop 1):=by
 have hpos:0<l.length:=aWB.2 hne;have hloop:=aIW (f:=P0 s r) (n:=l.length-1) (fun i=>(((i+1:Nat):Int),((List.range (i+1)).map (pc s l)).drop 1)) (r:=(DQ s l).drop 1)
  (fun i hi=>by
   have h1:=YL hle (show i+1<l.length by omega);have h2:=aIX hs (show i<i+1 by omega) (show i+1<l.length by omega);unfold P0;dsimp only;rw[hr,aWF,aU8 (uI pJ),aU8 (by unfold qJ;omega),show (((i+1:Nat):Int)-1)=(i:Int) by omega,aU8 (sN pJ),aU8 (sN pJ),YK (show i<l.length by omega),YK (show i+1<l.length by omega),aU8 ⟨Int.natCast_nonneg _,Int.ofNat_le.2 h2,Int.ofNat_le.2 h1⟩,aU8 (by rw[aVh,aWF,List.length_range,aVT];omega),aU8 (tN pJ)];rw[List.range_succ (n:=i+1),List.map_append,List.drop_append_of_le_length pL];rfl)
  (by
   unfold P0;dsimp only;rw[hr,aWF,show l.length-1+1=l.length by omega,aVa (vZ _)]) (l.length-1) 0 pJ
 exact hloop
include hsm hne hs hle hl in
theorem aQ6 {r:Int×Int×pG×Int×Int×Int×Int×pG×pH×List r5×List rZ×pP×Int×pN}(h:wP s=some r) (he:r.2.2.2.2.2.2.1=0) (hr:r.2.2.2.2.2.2.2.2.2.2.2.1=l.map (fun n:Nat=>(n:Int))):
  DK s=some (pc s l 0,(DQ s l).drop 1,qV s (IQ l:Nat) (s.length:Int),0):=by
 have hpos:0<l.length:=aWB.2 hne;have h0:=YL hle hpos;have hlast:IQ l<=s.length:=YL hle (show l.length-1<l.length by omega);unfold DK;rw[h,aU7,aVa (by simp [he]),aQ5 hsm hne hs hle hl hr,hr,aWF,aU8 ⟨aVW _,pJ⟩];have n0:rC (.int .i64) (l.map (fun n:Nat=>(n:Int))) (0:Int)=(l.getD 0 0:Nat):=YK hpos;have n1:rC (.int .i64) (l.map (fun n:Nat=>(n:Int))) ((l.length:Int)-1)=(IQ l:Nat):=by
  rw[show ((l.length:Int)-1)=((l.length-1:Nat):Int) by omega];exact YK pJ
 rw[n0,n1,aU8 ⟨aVW _,Int.natCast_nonneg _,Int.ofNat_le.2 h0⟩,aU8 (by unfold qJ;omega),aU8 ⟨pJ,pJ⟩,aU8 ⟨Int.natCast_nonneg _,Int.ofNat_le.2 hlast,aVW _⟩];rfl
end
def q3 (s:pG):pG:=([34]++BJ 3 s)++[34]
theorem DR {s:pG}(h:s.length≤6000):(q3 s).length≤36002:=by
  have:=aIK (n:=3) (.inr rfl) s;simp only[q3,aVc,aVd,aVv];omega
theorem MP {s:pG}(h:s.length≤6000):BR s=some (q3 s):=by
  have h1:=DR h;have h2:JX (3:Int) s=some (BJ 3 s):=aQQ (n:=3) (.inr rfl) (KI h);unfold q3 at*;simp only[aVc] at h1;unfold BR;rw[h2,aU7,aU8 (by simp only[aVc];omega),aU8 (by simp only[aVc];omega)]
theorem xA {l:pG}{n:Nat}(h:l.length≤n) (hn:n≤9223372036854775807):(l.length:Int)≤9223372036854775807:=by omega
theorem TD {l:pH}(h:GX l) {i:Nat}(hi:i<l.length):(l.getD i []).length≤6000:=h.2 _ (PF hi)
theorem TE {l:List s7}(h:KH l) {i:Nat}(hi:i<l.length):(l.getD i fD).1.length≤6000∧(l.getD i fD).2.1.length≤6000:=h.2 _ (PF hi)
abbrev aQ7:pG:=[10,32,32,99,111,109,109,101,110,116,32]
def ES (s:pG):pG:=aQ7++q3 s
def C3 (l:pH):pG:=l.flatMap ES
theorem aIY {s:pG}(h:s.length≤6000):(ES s).length≤36013:=by
  have:=DR h;simp only[ES,aVc,aVd,aVv];omega
theorem aIZ {l:pH}(h:GX l):(C3 l).length≤216078000:=by
  have:=PR (l:=l) (h:=ES) (B:=36013) fun x hx=>aIY (h.2 x hx);have h1:=h.1;unfold C3
  calc _≤l.length*36013:=this
    _≤6000*36013:=aW5 _ h1
theorem aI0 {l:pH}(h:GX l):JZ l=some (C3 l):=by
  have hl:=h.1
  have k:=TC (f:=SC l) (fun i s=>(s,i)) (fun s=>s) (n:=l.length) (M:=1000000000) (B:=36013) (fun i=>ES (l.getD i [])) (fun i hi=>aIY (TD h hi)) [] pM (fun i s hi hM=>by
    have h1:=DR (TD h hi);unfold SC;dsimp only;rw[aU8 (uI hi),aU8 (sN hi),XZ,MP (TD h hi),aU7,aU8 (xA (n:=1000000000) (by simp only[aVc,aVd,aVv];omega) pK),aU8 (xA (n:=1000000000) (by simp only[aVc,aVd,aVv];omega) pK),aU8 (tN pJ)];rfl) (fun b=>by
    unfold SC;dsimp only;rw[aVa (vZ _)])
  unfold JZ;rw[k,YJ (l:=l) (d:=[]) ES];rfl
abbrev aQ8:pG:=[10,32,32,102,105,101,108,100,32]
def DS (f:s7):pG:=((aQ8++q3 f.1)++[32])++q3 f.2.1
def zG (l:List s7):pG:=l.flatMap DS
theorem aI1 {f:s7}(h:f.1.length≤6000∧f.2.1.length≤6000):(DS f).length≤72014:=by
  have h1:=DR h.1;have h2:=DR h.2;simp only[DS,aVc,aVd,aVv];omega
theorem a9N {l:List s7}(h:KH l):(zG l).length≤432084000:=by
  have:=PR (l:=l) (h:=DS) (B:=72014) fun x hx=>aI1 (h.2 x hx);have h1:=h.1;unfold zG
  calc _≤l.length*72014:=this
    _≤6000*72014:=aW5 _ h1
theorem aI2 {l:List s7}(h:KH l):K0 l=some (zG l):=by
  have hl:=h.1
  have k:=TC (f:=SD l) (fun i s=>(s,i)) (fun s=>s) (n:=l.length) (M:=1000000000) (B:=72014) (fun i=>DS (l.getD i fD)) (fun i hi=>aI1 (TE h hi)) [] pM (fun i s hi hM=>by
    have h1:=DR (TE h hi).1;have h2:=DR (TE h hi).2;unfold SD;dsimp only;rw[aU8 (uI hi),aU8 (sN hi),a9r,MP (TE h hi).1,aU7,aU8 (xA (n:=1000000000) (by simp only[aVc,aVd,aVv];omega) pK),aU8 (xA (n:=1000000000) (by simp only[aVc,aVd,aVv];omega) pK),MP (TE h hi).2,aU7,aU8 (xA (n:=1000000000) (by simp only[aVc,aVd,aVv];omega) pK),aU8 (xA (n:=1000000000) (by simp only[aVc,aVd,aVv];omega) pK),aU8 (tN pJ)];rfl) (fun b=>by
    unfold SD;dsimp only;rw[aVa (vZ _)])
  unfold K0;rw[k,YJ (l:=l) (d:=fD) DS];rfl
abbrev aQ9:pG:=[10,32,32,102,108,97,103,32]
def CX (s:pG):pG:=aQ9++s
def yQ (l:pH):pG:=l.flatMap CX
theorem aI3 {s:pG}(h:s.length≤6000):(CX s).length≤6008:=by
  simp only[CX,aVc,aVd,aVv];omega
theorem aI4 {l:pH}(h:GX l):(yQ l).length≤36048000:=by
  have:=PR (l:=l) (h:=CX) (B:=6008) fun x hx=>aI3 (h.2 x hx);have h1:=h.1;unfold yQ
  calc _≤l.length*6008:=this
    _≤6000*6008:=aW5 _ h1
theorem aRa {x:t6}(h:MN x) (s:pG) (hs:s.length≤500000000):rE (OS x) (s,(0:Int))=some (s++yQ x.2.2.2.2.1):=by
  have hl:=h.flg.1
  have k:=TC (f:=OS x) (fun i s=>(s,i)) (fun s=>s) (n:=x.2.2.2.2.1.length) (M:=1000000000) (B:=6008) (fun i=>CX (x.2.2.2.2.1.getD i [])) (fun i hi=>aI3 (TD h.flg hi)) s pJ (fun i s hi hM=>by
    have h1:=TD h.flg hi;unfold OS;dsimp only;rw[aU8 (uI hi),aU8 (sN hi),XZ,aU8 (xA (n:=1000000000) (by simp only[aVc,aVd,aVv];omega) pK),aU8 (xA (n:=1000000000) (by simp only[aVc,aVd,aVv];omega) pK),aU8 (tN pJ)];rfl) (fun b=>by
    unfold OS;dsimp only;rw[aVa (vZ _)])
  rw[k,YJ (l:=x.2.2.2.2.1) (d:=[]) CX];rfl
abbrev aI5:pG:=[10,10,101,110,116,114,121,32]
abbrev MQ:pG:=[10,32,32,115,111,117,114,99,101,32]
abbrev MR:pG:=[10,32,32,116,97,114,103,101,116,32]
abbrev aRb:pG:=[10,32,32,115,116,97,116,101,32]
def yR (p s:pG):pG:=if s=[] then[] else p++q3 s
def GY (n:Int):pG:=if n=0 then[] else aRb++rC .str xU n
def IR (x:t6):pG:=((aI5++q3 x.1)++[32,123])++C3 x.2.2.2.1
def FW (x:t6):pG:=IR x++yR MQ x.2.1
def FX (x:t6):pG:=FW x++yR MR x.2.2.1
def MS (x:t6):pG:=FX x++GY x.2.2.2.2.2.1
def yS (x:t6):pG:=((MS x++yQ x.2.2.2.2.1)++zG x.2.2.2.2.2.2.1)++[10,125]
theorem aI6 {p s:pG}(hp:p.length≤10) (h:s.length≤6000):(yR p s).length≤36012:=by
  have:=DR h;unfold yR;split
  .simp
  .rw[aVc];omega
theorem aI7 {n:Int}(h0:0≤n) (h1:n≤4):(rC .str xU n).length≤10:=by
  have:n=0∨n=1∨n=2∨n=3∨n=4:=by omega
  rcases this with rfl|rfl|rfl|rfl|rfl<;>decide
theorem aI8 {n:Int}(h0:0≤n) (h1:n≤4):(GY n).length≤19:=by
  have:=aI7 h0 h1;unfold GY;split
  .simp
  .simp only[aVc,aVd,aVv];omega
section
variable {x:t6}(h:MN x) (h0:0≤x.2.2.2.2.2.1) (h4:x.2.2.2.2.2.1≤4)
include h
theorem aI9:(IR x).length≤216114012:=by
  have h1:=DR h.id;have h2:=aIZ h.com;simp only[IR,aVc,aVd,aVv];omega
theorem aJa:(FW x).length≤216150024:=by
  have h1:=aI9 h;have h2:=aI6 (p:=MQ) pK h.src;simp only[FW,aVc];omega
theorem aJb:(FX x).length≤216186036:=by
  have h1:=aJa h;have h2:=aI6 (p:=MR) pK h.tgt;simp only[FX,aVc];omega
include h0 h4
theorem aJc:(MS x).length≤216186055:=by
  have h1:=aJb h;have h2:=aI8 h0 h4;simp only[MS,aVc];omega
theorem aRc:(yS x).length≤900000000:=by
  have h1:=aJc h h0 h4;have h2:=aI4 h.flg;have h3:=a9N h.fld;simp only[yS,aVc,aVd,aVv];omega
theorem aRd:M3 x=some (yS x):=by
  have lA:=aI9 h;have lB:=aJa h;have lC:=aJb h;have lD:=aJc h h0 h4;have lf:=aI4 h.flg;have lg:=a9N h.fld;have li:=aRc h h0 h4;have q1:=DR h.id;have q2:=DR h.src;have q4:=DR h.tgt;have s4:=aI7 h0 h4
  have eB:(if (!decide (x.2.1=([]:pG)))=true then(BR x.2.1).bind fun O=>if ((([10,32,32,115,111,117,114,99,101,32]:pG)++O).length:Int)≤9223372036854775807 then if ((IR x++(([10,32,32,115,111,117,114,99,101,32]:pG)++O)).length:Int)≤9223372036854775807 then some (IR x++(([10,32,32,115,111,117,114,99,101,32]:pG)++O)) else none else none else some (IR x))=some (FW x):=by
    unfold FW yR;by_cases he:x.2.1=[]
    .rw[aVa (by simp [he]),aU8 he,List.append_nil]
    .rw[aU8 (by simp [he]),aVa he,MP h.src,aU7,aU8 (xA (n:=1000000000) (by simp only[aVc,aVd,aVv];omega) pK),aU8 (xA (n:=1000000000) (by simp only[aVc,aVd,aVv];omega) pK)]
  have eC:(if (!decide (x.2.2.1=([]:pG)))=true then(BR x.2.2.1).bind fun O=>if ((([10,32,32,116,97,114,103,101,116,32]:pG)++O).length:Int)≤9223372036854775807 then if ((FW x++(([10,32,32,116,97,114,103,101,116,32]:pG)++O)).length:Int)≤9223372036854775807 then some (FW x++(([10,32,32,116,97,114,103,101,116,32]:pG)++O)) else none else none else some (FW x))=some (FX x):=by
    unfold FX yR;by_cases he:x.2.2.1=[]
    .rw[aVa (by simp [he]),aU8 he,List.append_nil]
    .rw[aU8 (by simp [he]),aVa he,MP h.tgt,aU7,aU8 (xA (n:=1000000000) (by simp only[aVc,aVd,aVv];omega) pK),aU8 (xA (n:=1000000000) (by simp only[aVc,aVd,aVv];omega) pK)]
  unfold M3;rw[MP h.id,aU7,aU8 (xA (n:=1000000000) (by simp only[aVc,aVd,aVv];omega) pK),aU8 (xA (n:=1000000000) (by simp only[aVc,aVd,aVv];omega) pK),aI0 h.com,aU7];show (if ((IR x).length:Int)≤_ then _ else _)=_;rw[aU8 (xA (n:=1000000000) pJ pK)];refine(aVL (fun o=>sB o _) (show _=some (FW x) from eB)).trans ?_;unfold sB;rw[aU7];refine(aVL (fun o=>Option.bind o _) (show _=some (FX x) from eC)).trans ?_;rw[aU7]
  have eD: ∀K:pG→Option pG,((if (!decide (x.2.2.2.2.2.1=(0:Int)))=true then
       if 0≤x.2.2.2.2.2.1∧x.2.2.2.2.2.1<(xU.length:Int) then
        if ((([10,32,32,115,116,97,116,101,32]:pG)++(rC .str xU x.2.2.2.2.2.1)).length:Int)≤9223372036854775807 then
         if ((FX x++(([10,32,32,115,116,97,116,101,32]:pG)++(rC .str xU x.2.2.2.2.2.1))).length:Int)≤9223372036854775807 then
          some ((FX x++(([10,32,32,115,116,97,116,101,32]:pG)++(rC .str xU x.2.2.2.2.2.1))))
         else none
        else none
       else none
      else
       some (FX x)).bind K)=K (MS x):=by
    intro K;unfold MS GY;by_cases he:x.2.2.2.2.2.1=0
    .rw[aVa (by simp [he]),aU8 he,List.append_nil,aU7]
    .rw[aU8 (by simp [he]),aVa he,aU8 ⟨h0,by show _<(5:Int);omega⟩,aU8 (xA (n:=1000000000) (by simp only[aVc,aVd,aVv];omega) pK),aU8 (xA (n:=1000000000) (by simp only[aVc,aVd,aVv];omega) pK),aU7]
  refine(eD _).trans ?_;rw[aRa h _ pJ,aU7,aI2 h.fld,aU7,aU8 (xA (n:=1000000000) (by simp only[aVc,aVd,aVv];omega) pK),aU8 (xA (n:=1000000000) (by simp only[aVc,aVd,aVv];omega) pK)];rfl
end
theorem aRe {α β:Type}{f:α→β}{l:List α}:l.flatMap (fun x=>[f x])=l.map f:=by
  induction l with
  |nil=>rfl
  |cons x l ih=>rw[aWC,ih];rfl
abbrev aJd:pG:=[99,97,116,97,108,111,103,32]
def DT (c:C4):pG:=((((aJd++q3 c.1)++[32,123])++C3 c.2.1)++zG c.2.2.1)++[10,125]
theorem aJe {c:C4}(hok:yP c=true) {i:Nat}(hi:i<c.2.2.2.1.length):wZ (c.2.2.2.1.getD i eD)=true:=by
  unfold yP at hok;simp only[aVg,aVG,aV1,aWV] at hok;have:=hok.2.2 i hi;unfold IP at this;simp only[aVZ,aVG,not_or,Bool.not_eq_false] at this;exact this.2
theorem a9O {x:t6}(h:wZ x=true):0≤x.2.2.2.2.2.1∧x.2.2.2.2.2.1≤4:=by
  unfold wZ at h;simp only[aVg,aVf] at h;exact h.1.2
theorem aJf {c:C4}(hc:YI c):FN c=some (if yP c=true then(DT c,c.2.2.2.1.map yS,[10],0) else([],[],[],1)):=by
  unfold FN;rw[aQJ hc.fitP,aU7];by_cases hok:yP c=true
  · have hl:=hc.len
    have q1:=DR (s:=c.1) (by have:=hc.tag;omega);have h2:=aIZ hc.com;have h3:=a9N hc.fld
    have k:=TC (f:=SK c) (fun i b=>(i,b)) (fun b=>b) (n:=c.2.2.2.1.length) (M:=1000000) (B:=1) (fun i=>[yS (c.2.2.2.1.getD i eD)]) (fun i hi=>by simp) [] pM (fun i b hi hM=>by
      obtain⟨r0,r4⟩:=a9O (aJe hok hi);unfold SK;dsimp only;rw[aU8 (uI hi),aU8 (sN hi),aIA,aRd (hc.ent _ (PF hi)) r0 r4,aU7,aU8 pM,aU8 (tN pJ)]) (fun b=>by
      unfold SK;dsimp only;rw[aVa (vZ _)])
    rw[hok,aVa pK,aU8 rfl,MP (by have:=hc.tag;omega),aU7,aU8 (xA (n:=1000000000) (by simp only[aVc,aVd,aVv];omega) pK),aU8 (xA (n:=1000000000) (by simp only[aVc,aVd,aVv];omega) pK),aI0 hc.com,aU7,aU8 (xA (n:=1000000000) (by simp only[aVc,aVd,aVv];omega) pK),aI2 hc.fld,aU7,aU8 (xA (n:=1000000000) (by simp only[aVc,aVd,aVv];omega) pK),aU8 (xA (n:=1000000000) (by simp only[aVc,aVd,aVv];omega) pK),k,YJ (l:=c.2.2.2.1) (d:=eD) (fun x=>[yS x])];unfold sB;rw[aU7];rw[List.nil_append,aRe];rfl
  · simp only[aV6] at hok
    rw[hok,aU8 (show (!false)=true from rfl),aVa pK]
def YM {x y b:UInt8}{t:pG}(h:b≠x): ¬sV x y (b::t)=true:=by
 cases t with
 |nil=>simp [sV]
 |cons c u=>simp [sV,h]
def YN (r:pG):Prop:= ∀b t,r=b::t->vR b≠true/\b≠47
def aJg: ∀(g r:pG),(∀b∈g,vR b=true)->YN r->G (g++r)=(g.length,true)
 |[],r,_,hr=>by
  cases r with
  |nil=>rfl
  |cons b t=>
   obtain⟨h1,h2⟩:=hr b t rfl;rw[List.nil_append,GV h1 (YM h2) (YM h2)];rfl
 |b::g,r,hg,hr=>by
  rw[List.cons_append,C1 (hg b aVw),aJg g r (fun x hx=>hg x (aVr _ hx)) hr];simp only[BZ,aVd,aVD,and_true];omega
def aRf {g r:pG}(hg: ∀b∈g,vR b=true) (hr:YN r):tO (g++r)=((tX r).1,(tX r).2.1,g.length,g.length+(tX r).2.2):=by
 unfold tO;rw[aJg g r hg hr];simp only[aWQ,aWR]
structure At (s:pG) (P:Nat) (l:pG):Prop where
 le:P<=s.length
 eq:s.drop P=l
def At.tok {s:pG}{P:Nat}{g r x:pG}{k:Int}{m:Nat}(h:At s P (g++r)) (hg: ∀b∈g,vR b=true) (hr:YN r) (ht:tX r=(k,x,m)):kS s P=k/\xS s P=x/\At s (nS s P) (r.drop m):=by
 have e:=aRf hg hr;rw[ht,<-h.eq] at e;refine⟨?_,?_,(tC h.le).2,?_⟩
 .unfold kS;rw[e]
 .unfold xS;rw[e]
 .unfold nS;rw[e];dsimp only;rw[<-aVQ,h.eq,<-aVQ,aWR]
def aRg {x z:pG}(hx:tG x=true):tX (q3 x++z)=(1,x,(q3 x).length):=by
 have e1:q3 x++z=34::(BJ 3 x++34::z):=by simp [q3]
 have e2:(q3 x).length=(BJ 3 x).length+2:=by simp [q3]
 have h1:sU 34 (BJ 3 x++34::z)=some (BJ 3 x).length:=aQW (n:=3) (.inr rfl) x z;have h2:yK 3 (BJ 3 x)=(x,0,0):=aQV (n:=3) (.inr rfl) x;rw[e1,e2,DM pK rfl];unfold x9;rw[h1];dsimp only;rw[aWu,h2,aVa (by simp [hx])]
def aRh (x z:pG):YN (q3 x++z):=by
 intro b t h;have:q3 x++z=34::(BJ 3 x++34::z):=by simp [q3]
 rw[this] at h;cases h;exact⟨pK,pK⟩
def At.str {s:pG}{P:Nat}{g x z:pG}(h:At s P (g++(q3 x++z))) (hg: ∀b∈g,vR b=true) (hx:tG x=true):kS s P=1/\xS s P=x/\At s (nS s P) z:=by
 obtain⟨h1,h2,h3⟩:=h.tok hg (aRh x z) (aRg hx);rw[aWR] at h3;exact⟨h1,h2,h3⟩
def At.brace {s:pG}{P:Nat}{g z:pG}{b:UInt8}(hb:b=123\/b=125) (h:At s P (g++(b::z))) (hg: ∀b∈g,vR b=true):kS s P=3/\xS s P=[b]/\At s (nS s P) z:=by
 obtain⟨h1,h2,h3⟩:=h.tok hg (fun c t e=>by cases e;rcases hb with rfl|rfl<;>exact⟨pK,pK⟩) (FT hb)
 exact⟨h1,h2,h3⟩
def TF (w:pG):Bool:=w.all wQ&&(match w with|[]=>false|b::_=>yB b.toNat)
def aRi {w z:pG}(hw:w.all wQ=true) (hz: ∀b t,z=b::t->wQ b=false):wA (w++z)=w.length:=by
 unfold wA
 induction w with
 |nil=>
  cases z with
  |nil=>rfl
  |cons b t=>rw[List.nil_append,aWd,hz b t rfl];rfl
 |cons a u ih=>
  rw[List.all_cons,aVg] at hw;have:=ih hw.2;rw[List.cons_append,aWd,hw.1];simp only[Bool.not_true,aWx,aXn,aVd];cases hf:(u++z).findIdx? fun b=> !wQ b with
  |none=>rw[hf] at this;simpa using this
  |some k=>rw[hf] at this;simpa using this
def aRj {b:UInt8}(h:yB b.toNat=true): ¬(b=123\/b=125)/\¬b=34/\vR b≠true/\b≠47:=by
 refine⟨?_,?_,?_,?_⟩
 .rintro(rfl|rfl)<;>revert h<;>decide
 .rintro rfl;revert h;decide
 .intro hw;unfold vR at hw;simp only[aVZ,aVf] at hw;rcases hw with((rfl|rfl) |rfl) |rfl<;>revert h<;>decide
 .rintro rfl;revert h;decide
def At.word {s:pG}{P:Nat}{g w z:pG}(h:At s P (g++(w++z))) (hg: ∀b∈g,vR b=true) (hw:TF w=true) (hz: ∀b t,z=b::t->wQ b=false):kS s P=2/\xS s P=w/\At s (nS s P) z:=by
 unfold TF at hw;rw[aVg] at hw;obtain⟨h1,h2⟩:=hw;cases w with
 |nil=>cases h2
 |cons b u=>
  have h2:yB b.toNat=true:=h2;obtain⟨n1,n2,n3,n4⟩:=aRj h2;have hlen:=aRi h1 hz;have ht:tX ((b::u)++z)=(2,b::u,(b::u).length):=by
   rw[List.cons_append,DN n1 n2 h2,<-List.cons_append,hlen,aWu]
  obtain⟨k1,k2,k3⟩:=h.tok hg (fun c t e=>by cases e;exact⟨n3,n4⟩) ht;rw[aWR] at k3;exact⟨k1,k2,k3⟩
def aRk {b:UInt8}(h:yI b.toNat=false):wQ b=true:=by
 unfold yI at h;unfold wQ SZ yB;simp only[aWG,aWw,aVg,aVZ,aVf] at h|-;omega
def aRl {x:pG}(h:sS x=true):TF x=true:=by
 cases x with
 |nil=>cases h
 |cons b t=>
  unfold sS at h;simp only[aVg,aVG,aV1,aV6] at h;obtain⟨⟨_,h1⟩,h2⟩:=h;have hb:yB b.toNat=true/\wQ b=true:=by
   unfold zQ at h1;unfold wQ SZ yB;simp only[aVg,aVZ,aVf] at h1|-;omega
  unfold TF;rw[aVg,List.all_cons,aVg];exact⟨⟨hb.2,aV4.2 fun c hc=>aRk (h2 c hc)⟩,hb.1⟩
theorem aRm {l:pH}{x:pG}(h: ∀y∈l,y<x):EN l x=l++[x]:=by
 have hk:yN l x=l.length:=by
  unfold yN;rw[aWl.2 fun y hy=>by rw[DP];simpa using h y hy];rfl
 unfold EN;rw[hk,List.take_length,aVR,List.append_nil]
theorem aRn {l:List s7}{n v:pG}(h: ∀y∈l,y.1<n):BG l n v=l++[(n,(v,()))]:=by
 have h1:AI l n=none:=by
  unfold AI;rw[aWl];intro y hy;have:=h y hy;simp only[aVO];intro he;rw[he] at this;exact List.lt_irrefl _ this
 have hk:FR l n=l.length:=by
  unfold FR;rw[aWl.2 fun y hy=>by rw[DP];simp [h y hy]];rfl
 unfold BG;rw[h1,hk,List.take_length,aVR,List.append_nil];rfl
theorem aRo {n:Int}(h0:0<=n) (h4:n<=4):uJ (rC .str xU n)=n:=by
 have:n=0\/n=1\/n=2\/n=3\/n=4:=by omega
 rcases this with rfl|rfl|rfl|rfl|rfl<;>decide
theorem aRp {n:Int}(h0:0<=n) (h4:n<=4):TF (rC .str xU n)=true:=by
 have:n=0\/n=1\/n=2\/n=3\/n=4:=by omega
 rcases this with rfl|rfl|rfl|rfl|rfl<;>decide
theorem PU: ∀b∈([10,32,32]:pG),vR b=true:=by decide
theorem GZ: ∀b∈([32]:pG),vR b=true:=by decide
theorem aRq: ∀b∈([10]:pG),vR b=true:=by decide
theorem aRr: ∀b∈([10,10]:pG),vR b=true:=by decide
theorem KK {z:pG}: ∀b t,(([32]:pG)++z)=b::t->wQ b=false:=by
 intro b t h;cases h;decide
def FY (z:pG):Prop:= ∀b t,z=b::t->wQ b=false
theorem YO (z:pG):FY (10::z):=by
 intro b t h;cases h;decide
section
variable {s:pG}(hsm:s.length<=4000000000) {c:C4}{bad bad0 at0 e0:Int}{ends:pP}{i:rZ}{hd:Bool}
 {P:Nat}{z sr tg:pG}{cm fg:pH}{st:Int}{fd:List s7}{d1 d2 d3:Bool}
include hsm
theorem aRs {x:pG}(hA:At s P (ES x++z)) (hx:tG x=true) (hc:cm.length<20): ∃P',At s P' z/\
  uL (s,(at0,(bad0,(e0,(c,(ends,())))))) i hd ((P:Int),bad,0,sr,tg,cm,fg,st,fd,d1,d2,d3)=some (.inl ((P':Int),bad,0,sr,tg,cm++[x],fg,st,fd,d1,d2,d3)):=by
 have e:ES x++z=[10,32,32]++(xW++([32]++(q3 x++z))):=by simp [ES]
 rw[e] at hA;obtain⟨k1,x1,A1⟩:=hA.word PU pK KK;obtain⟨k2,x2,A2⟩:=A1.str GZ hx;refine⟨_,A2,?_⟩;rw[AM hsm hA.le k1,T7 hsm A1.le x1 pJ,aU7,aU8 k2,x2]
theorem a9P: ∀(l:pH) (P:Nat) (cm:pH),At s P (C3 l++z)->(∀x∈l,tG x=true)->cm.length+l.length<=20->∃P',At s P' z/\
  rE (uL (s,(at0,(bad0,(e0,(c,(ends,())))))) i hd) ((P:Int),bad,0,sr,tg,cm,fg,st,fd,d1,d2,d3)=rE (uL (s,(at0,(bad0,(e0,(c,(ends,())))))) i hd) ((P':Int),bad,0,sr,tg,cm++l,fg,st,fd,d1,d2,d3)
 |[],P,cm,hA,_,_=>⟨P,hA,by rw[List.append_nil]⟩
 |x::l,P,cm,hA,hx,hl=>by
  rw[aVd] at hl;have e:C3 (x::l)++z=ES x++(C3 l++z):=by simp [C3,aVi]
  rw[e] at hA;obtain⟨P1,A1,h1⟩:=aRs hsm (c:=c) (bad:=bad) (bad0:=bad0) (at0:=at0) (e0:=e0) (ends:=ends) (i:=i) (hd:=hd) (sr:=sr) (tg:=tg) (cm:=cm) (fg:=fg) (st:=st) (fd:=fd) (d1:=d1) (d2:=d2) (d3:=d3) hA (hx x aVw) pJ;obtain⟨P2,A2,h2⟩:=a9P l P1 (cm++[x]) A1 (fun y hy=>hx y (aVr _ hy)) (by rw[aVc,aVT];omega);refine⟨P2,A2,?_⟩;rw[AO h1,h2,aVi,aV2]
theorem aRt {x:s7}(hA:At s P (DS x++z)) (hn:sS x.1=true) (hnt:tG x.1=true) (hx:tG x.2.1=true) (hlt: ∀y∈fd,y.1<x.1) (hc:fd.length<20): ∃P',At s P' z/\
  uL (s,(at0,(bad0,(e0,(c,(ends,())))))) i hd ((P:Int),bad,0,sr,tg,cm,fg,st,fd,d1,d2,d3)=some (.inl ((P':Int),bad,0,sr,tg,cm,fg,st,fd++[x],d1,d2,d3)):=by
 have e:DS x++z=[10,32,32]++(zE++([32]++(q3 x.1++([32]++(q3 x.2.1++z))))):=by simp [DS]
 rw[e] at hA;obtain⟨k1,x1,A1⟩:=hA.word PU pK KK;obtain⟨k2,x2,A2⟩:=A1.str GZ hnt;obtain⟨k3,x3,A3⟩:=A2.str GZ hx;refine⟨_,A3,?_⟩;have hnone:(fd.any fun y=>decide (y.1=x.1))=false:=by
  rw[aV1];intro y hy;have:=hlt y hy;simp only[aVf];intro he;rw[he] at this;exact List.lt_irrefl _ this
 have hR:EM s (nS s P) bad fd=((nS s (nS s (nS s P)):Int),bad,0,fd++[x]):=by
  unfold EM;rw[aVa (by simp [k2]),x2,aVa (by simp [hn]),aVa (by simp [hnone]),aVa pJ,aVa (by simp [k3]),x3,aRn hlt]
 rw[AM hsm hA.le k1,T8 hsm A1.le x1 pJ,aU7,hR]
theorem a9Q: ∀(l:List s7) (P:Nat) (fd:List s7),At s P (zG l++z)->(∀x∈l,sS x.1=true/\tG x.1=true/\tG x.2.1=true)->(fd++l).Pairwise (fun a b=>a.1<b.1)->fd.length+l.length<=20->∃P',At s P' z/\
  rE (uL (s,(at0,(bad0,(e0,(c,(ends,())))))) i hd) ((P:Int),bad,0,sr,tg,cm,fg,st,fd,d1,d2,d3)=rE (uL (s,(at0,(bad0,(e0,(c,(ends,())))))) i hd) ((P':Int),bad,0,sr,tg,cm,fg,st,fd++l,d1,d2,d3)
 |[],P,fd,hA,_,_,_=>⟨P,hA,by rw[List.append_nil]⟩
 |x::l,P,fd,hA,hx,hp,hl=>by
  rw[aVd] at hl;have e:zG (x::l)++z=DS x++(zG l++z):=by simp [zG,aVi]
  rw[e] at hA;obtain⟨n1,n2,n3⟩:=hx x aVw;obtain⟨P1,A1,h1⟩:=aRt hsm (c:=c) (bad:=bad) (bad0:=bad0) (at0:=at0) (e0:=e0) (ends:=ends) (i:=i) (hd:=hd) (sr:=sr) (tg:=tg) (cm:=cm) (fg:=fg) (st:=st) (fd:=fd) (d1:=d1) (d2:=d2) (d3:=d3) hA n1 n2 n3 (fun y hy=>(aWy.1 hp).2.2 y hy x aVw) pJ;obtain⟨P2,A2,h2⟩:=a9Q l P1 (fd++[x]) A1 (fun y hy=>hx y (aVr _ hy)) (by rw[aVi,aV2];exact hp) (by rw[aVc,aVT];omega);refine⟨P2,A2,?_⟩;rw[AO h1,h2,aVi,aV2]
theorem aRu {x:pG}(hA:At s P (CX x++z)) (hn:sS x=true) (hz:FY z) (hlt: ∀y∈fg,y<x) (hc:fg.length<20): ∃P',At s P' z/\
  uL (s,(at0,(bad0,(e0,(c,(ends,())))))) i false ((P:Int),bad,0,sr,tg,cm,fg,st,fd,d1,d2,d3)=some (.inl ((P':Int),bad,0,sr,tg,cm,fg++[x],st,fd,d1,d2,d3)):=by
 have e:CX x++z=[10,32,32]++(CW++([32]++(x++z))):=by simp [CX]
 rw[e] at hA;obtain⟨k1,x1,A1⟩:=hA.word PU pK KK;obtain⟨k2,x2,A2⟩:=A1.word GZ (aRl hn) hz;refine⟨_,A2,?_⟩;have hnone:(fg.any fun y=>decide (y=x))=false:=by
  rw[aV1];intro y hy;have:=hlt y hy;simp only[aVf];intro he;rw[he] at this;exact List.lt_irrefl _ this
 have hR:EO s (nS s P) bad fg=((nS s (nS s P):Int),bad,0,fg++[x]):=by
  unfold EO;rw[aVa (by simp [k2]),x2,aVa (by simp [hn]),aVa (by simp [hnone]),aVa pJ,aRm hlt]
 rw[AM hsm hA.le k1,T9 hsm A1.le x1 pJ,aU7,hR]
theorem aRv: ∀(l:pH) {z:pG},FY z->FY (yQ l++z)
 |[],_,hz=>hz
 |x::l,z,_=>by
  have e:yQ (x::l)++z=10::([32,32,102,108,97,103,32]++(x++(yQ l++z))):=by simp [yQ,CX,aVi]
  rw[e];exact YO _
theorem aJh (hz:FY z): ∀(l:pH) (P:Nat) (fg:pH),At s P (yQ l++z)->(∀x∈l,sS x=true)->(fg++l).Pairwise (· < ·)->fg.length+l.length<=20->∃P',At s P' z/\
  rE (uL (s,(at0,(bad0,(e0,(c,(ends,())))))) i false) ((P:Int),bad,0,sr,tg,cm,fg,st,fd,d1,d2,d3)=rE (uL (s,(at0,(bad0,(e0,(c,(ends,())))))) i false) ((P':Int),bad,0,sr,tg,cm,fg++l,st,fd,d1,d2,d3)
 |[],P,fg,hA,_,_,_=>⟨P,hA,by rw[List.append_nil]⟩
 |x::l,P,fg,hA,hx,hp,hl=>by
  rw[aVd] at hl;have e:yQ (x::l)++z=CX x++(yQ l++z):=by simp [yQ,aVi]
  rw[e] at hA;obtain⟨P1,A1,h1⟩:=aRu hsm (c:=c) (bad:=bad) (bad0:=bad0) (at0:=at0) (e0:=e0) (ends:=ends) (i:=i) (sr:=sr) (tg:=tg) (cm:=cm) (fg:=fg) (st:=st) (fd:=fd) (d1:=d1) (d2:=d2) (d3:=d3) hA (hx x aVw) (aRv hsm l hz) (fun y hy=>(aWy.1 hp).2.2 y hy x aVw) pJ;obtain⟨P2,A2,h2⟩:=aJh hz l P1 (fg++[x]) A1 (fun y hy=>hx y (aVr _ hy)) (by rw[aVi,aV2];exact hp) (by rw[aVc,aVT];omega);refine⟨P2,A2,?_⟩;rw[AO h1,h2,aVi,aV2]
theorem aRw {x:pG}(hA:At s P (yR MQ x++z)) (hx:tG x=true): ∃P' d,At s P' z/\
  rE (uL (s,(at0,(bad0,(e0,(c,(ends,())))))) i false) ((P:Int),bad,0,[],tg,cm,fg,st,fd,false,d2,d3)=rE (uL (s,(at0,(bad0,(e0,(c,(ends,())))))) i false) ((P':Int),bad,0,x,tg,cm,fg,st,fd,d,d2,d3):=by
 by_cases he:x=[]
 .subst he;exact⟨P,false,by simpa[yR] using hA,rfl⟩
 .have e:yR MQ x++z=[10,32,32]++(uC++([32]++(q3 x++z))):=by simp [yR,he]
  rw[e] at hA;obtain⟨k1,x1,A1⟩:=hA.word PU pK KK;obtain⟨k2,x2,A2⟩:=A1.str GZ hx;refine⟨_,true,A2,AO ?_⟩;rw[AM hsm hA.le k1,x1,EP hsm A1.le pK pK pK,aU7,aIr,aVa pK,aU8 rfl,aU8 k2,x2]
theorem aRx {x:pG}(hA:At s P (yR MR x++z)) (hx:tG x=true): ∃P' d,At s P' z/\
  rE (uL (s,(at0,(bad0,(e0,(c,(ends,())))))) i false) ((P:Int),bad,0,sr,[],cm,fg,st,fd,d1,false,d3)=rE (uL (s,(at0,(bad0,(e0,(c,(ends,())))))) i false) ((P':Int),bad,0,sr,x,cm,fg,st,fd,d1,d,d3):=by
 by_cases he:x=[]
 .subst he;exact⟨P,false,by simpa[yR] using hA,rfl⟩
 .have e:yR MR x++z=[10,32,32]++(uD++([32]++(q3 x++z))):=by simp [yR,he]
  rw[e] at hA;obtain⟨k1,x1,A1⟩:=hA.word PU pK KK;obtain⟨k2,x2,A2⟩:=A1.str GZ hx;refine⟨_,true,A2,AO ?_⟩;rw[AM hsm hA.le k1,x1,EP hsm A1.le pK pK pK,aU7,aIs,aVa pK,aVa pK,aU8 rfl,aU8 k2,x2]
theorem aRy {n:Int}(hA:At s P (GY n++z)) (h0:0<=n) (h4:n<=4) (hz:FY z): ∃P' d,At s P' z/\
  rE (uL (s,(at0,(bad0,(e0,(c,(ends,())))))) i false) ((P:Int),bad,0,sr,tg,cm,fg,0,fd,d1,d2,false)=rE (uL (s,(at0,(bad0,(e0,(c,(ends,())))))) i false) ((P':Int),bad,0,sr,tg,cm,fg,n,fd,d1,d2,d):=by
 by_cases he:n=0
 .subst he;exact⟨P,false,by simpa[GY] using hA,rfl⟩
 .have e:GY n++z=[10,32,32]++(uP++([32]++(rC .str xU n++z))):=by simp [GY,he]
  rw[e] at hA;obtain⟨k1,x1,A1⟩:=hA.word PU pK KK;obtain⟨k2,x2,A2⟩:=A1.word GZ (aRp h0 h4) hz;refine⟨_,true,A2,AO ?_⟩;rw[AM hsm hA.le k1,x1,EP hsm A1.le pK pK pK,aU7,aIt,aVa pK,aVa pK,aVa pK,aU8 rfl,aU8 k2,x2,aRo h0 h4,aVa pJ]
theorem aJi (hA:At s P ([10,125]++z)) (he:ends.length<=5000): ∃P':Nat,At s P' z/\
  rE (uL (s,(at0,(bad0,(e0,(c,(ends,())))))) i hd) ((P:Int),bad,0,sr,tg,cm,fg,st,fd,d1,d2,d3)=some (.inr ((P':Int),bad,0,ends++[(P':Int)],sr,tg,cm,fg,st,fd)):=by
 have hA':At s P ([10]++(125::z)):=hA;obtain⟨k1,x1,A1⟩:=hA'.brace (.inr rfl) aRq;exact⟨_,A1,vB (TA hsm hA.le k1 x1 he)⟩
end
theorem aJj {l:pG}(h: ∀b∈l,b.toNat<128):Lib.validD l=true:=by
 rw[Lib.validD_ascii l.length l (fun b hb=>h b (List.mem_of_mem_take hb)),aVR];rfl
theorem aRz {b:UInt8}(h:yI b.toNat=false):b.toNat<128:=by
 unfold yI at h;simp only[aWG,aWw,aVg,aVf] at h;omega
theorem aJk {x:pG}(h:sS x=true):tG x=true:=by
 cases x with
 |nil=>cases h
 |cons b t=>
  unfold sS at h;simp only[aVg,aVG,aV1,aV6,aVO] at h;obtain⟨⟨h0,h1⟩,h2⟩:=h;unfold tG;rw[aVg,aVf];refine⟨by simp only[aVd];omega,aJj fun c hc=> ?_⟩;rcases aVs.1 hc with rfl|hc
  .unfold zQ at h1;simp only[aVg,aVf] at h1;omega
  .exact aRz (h2 c hc)
theorem aJl {x:pG}(h:uM x=true):tG x=true:=by
 unfold uM at h;simp only[aVg,aVG,aV1,aV6,aVf] at h;obtain⟨h0,h1,h2⟩:=h;unfold tG;rw[aVg,aVf];refine⟨pJ,aJj fun c hc=> ?_⟩;have:=h0 c hc;unfold M8 at this;simp only[aWG,aWw,aVg,aWr,aVf,aVO] at this;omega
theorem KL {l:pH}(h:xL l=true):l.length<=20/\∀x∈l,tG x=true:=by
 unfold xL at h;simp only[aVg,aVG,aV1,aVf,aV6,aWw] at h;exact⟨pJ,fun x hx=>by simpa using h.2 x hx⟩
theorem aJm {α:Type}{r:α->α->Prop}(tr: ∀a b c,r a b->r b c->r a c) {l:List α}(h: ∀(i:Nat) (hi:i+1<l.length),r l[i] l[i+1]):l.Pairwise r:=by
 rw[aWe];intro i j hi hj hij;obtain⟨k,rfl⟩: ∃k,j=i+1+k:=⟨j-i-1,pJ⟩
 induction k with
 |zero=>exact h i hj
 |succ k ih=>exact tr _ _ _ (ih pJ pJ) (h (i+1+k) hj)
theorem DU {α:Type}{l:List α}{i:Nat}{d:α}(h:i<l.length):l.getD i d=l[i]:=by
 rw[aVy,aVj h];rfl
theorem TG {l:pH}(h:DL l=true):l.length<=20/\(∀x∈l,sS x=true)/\l.Pairwise (· < ·):=by
 unfold DL at h;simp only[aVg,aVG,aV1,aVf,aWV,aV6] at h;obtain⟨h1,h2⟩:=h;unfold ST at h1;simp only[aWr,aWG,aWw,aVO] at h1;refine⟨pJ,fun x hx=> ?_,aJm (r:=fun a b:pG=>a<b) (fun a b c=>List.lt_trans) fun i hi=> ?_⟩
 .obtain⟨i,hi,rfl⟩:=aXc hx;have:=(h1 i hi).1;rwa [DU hi] at this
 .have:=(h1 (i+1) hi).2;rw[DU hi,Nat.add_sub_cancel,DU (show i<l.length by omega),DP] at this;exact aVU (this.resolve_left pJ)
theorem IS {l:List s7}(h:xM l=true):l.length<=20/\(∀x∈l,sS x.1=true/\tG x.1=true/\tG x.2.1=true)/\l.Pairwise (fun a b=>a.1<b.1):=by
 unfold xM at h;simp only[aVg,aVG,aV1,aVf,aWV,aV6] at h;obtain⟨h1,h2⟩:=h;unfold SU at h1;simp only[aWr,aWG,aWw,aVO] at h1;refine⟨pJ,fun x hx=> ?_,aJm (r:=fun a b:s7=>a.1<b.1) (fun a b c=>List.lt_trans) fun i hi=> ?_⟩
 .obtain⟨i,hi,rfl⟩:=aXc hx;have:=(h1 i hi).1;rw[DU hi] at this;exact⟨this.1,aJk this.1,this.2⟩
 .have:=(h1 (i+1) hi).2;rw[DU hi,Nat.add_sub_cancel,DU (show i<l.length by omega),DP] at this;exact aVU (this.resolve_left pJ)
theorem aRA (l:List s7) {z:pG}(hz:FY z):FY (zG l++z):=by
 cases l with
 |nil=>exact hz
 |cons x l=>
  have e:zG (x::l)++z=10::([32,32,102,105,101,108,100,32]++(q3 x.1++([32]++(q3 x.2.1++(zG l++z))))):=by simp [zG,DS,aVi]
  rw[e];exact YO _
theorem aRB (l:pH) {z:pG}(hz:FY z):FY (yQ l++z):=by
 cases l with
 |nil=>exact hz
 |cons x l=>
  have e:yQ (x::l)++z=10::([32,32,102,108,97,103,32]++(x++(yQ l++z))):=by simp [yQ,CX,aVi]
  rw[e];exact YO _
section
variable {s:pG}(hsm:s.length<=4000000000) {bad:Int}{c2:C4}{ends:pP}{P:Nat}{z:pG}
include hsm
theorem aJn {i:rZ}{hd:Bool}{z:pG}(hA:At s P ([32]++(123::z))): ∃P':Nat,At s P' z/\
  vC (s,((P:Int),(bad,(0,(c2,(ends,())))))) i hd=sZ (rE (uL (s,((P:Int),(bad,(0,(c2,(ends,())))))) i hd) ((P':Int),bad,0,i.2.1,i.2.2.1,i.2.2.2.1,i.2.2.2.2.1,i.2.2.2.2.2.1,i.2.2.2.2.2.2.1,false,false,false)) fun(O,Z,aA,aB,aC,aD,aE,aF,aG)=>
   some ((O,Z,aA,ends,aB,aC,aD,aE,aF,aG)):=by
 obtain⟨k1,x1,A1⟩:=hA.brace (.inl rfl) GZ;refine⟨_,A1,?_⟩;unfold vC;rw[AK hsm hA.le,aU7,vJ (by rw[(yM pK pK).2 k1,x1];decide)]
theorem aRC {x:t6}(h:wZ x=true) (he:ends.length<=5000) (hA:At s P ([32]++(123::(C3 x.2.2.2.1++(yR MQ x.2.1++(yR MR x.2.2.1++(GY x.2.2.2.2.2.1++(yQ x.2.2.2.2.1++(zG x.2.2.2.2.2.2.1++([10,125]++z)))))))))): ∃P':Nat,At s P' z/\
  vC (s,((P:Int),(bad,(0,(c2,(ends,())))))) (i0 x.1) false=some ((P':Int),bad,0,ends++[(P':Int)],x.2.1,x.2.2.1,x.2.2.2.1,x.2.2.2.2.1,x.2.2.2.2.2.1,x.2.2.2.2.2.2.1):=by
 have h':=h;unfold wZ at h';simp only[aVg] at h';obtain⟨⟨⟨⟨⟨⟨_,hsrc⟩,htgt⟩,hcom⟩,hflg⟩,_⟩,hfld⟩:=h';obtain⟨r0,r4⟩:=a9O h;obtain⟨c1,c2'⟩:=KL hcom;obtain⟨f1,f2,f3⟩:=TG hflg;obtain⟨g1,g2,g3⟩:=IS hfld;have hb0:FY (([10,125]:pG)++z):=YO _;have hb1:=aRA x.2.2.2.2.2.2.1 hb0;have hb2:=aRB x.2.2.2.2.1 hb1;obtain⟨P1,A1,e1⟩:=aJn (bad:=bad) (c2:=c2) (ends:=ends) (i:=i0 x.1) (hd:=false) hsm hA;obtain⟨P2,A2,e2⟩:=a9P (bad:=bad) (c:=c2) (bad0:=bad) (at0:=(P:Int)) (e0:=0) (ends:=ends) (i:=i0 x.1) (hd:=false) (sr:=[]) (tg:=[]) (fg:=[]) (st:=0) (fd:=[]) (d1:=false) (d2:=false) (d3:=false) hsm _ P1 [] A1 c2' (by simpa using c1);obtain⟨P3,d1,A3,e3⟩:=aRw (bad:=bad) (c:=c2) (bad0:=bad) (at0:=(P:Int)) (e0:=0) (ends:=ends) (i:=i0 x.1) (tg:=[]) (cm:=[]++x.2.2.2.1) (fg:=[]) (st:=0) (fd:=[]) (d2:=false) (d3:=false) hsm A2 hsrc;obtain⟨P4,d2,A4,e4⟩:=aRx (bad:=bad) (c:=c2) (bad0:=bad) (at0:=(P:Int)) (e0:=0) (ends:=ends) (i:=i0 x.1) (sr:=x.2.1) (cm:=[]++x.2.2.2.1) (fg:=[]) (st:=0) (fd:=[]) (d1:=d1) (d3:=false) hsm A3 htgt;obtain⟨P5,d3,A5,e5⟩:=aRy (bad:=bad) (c:=c2) (bad0:=bad) (at0:=(P:Int)) (e0:=0) (ends:=ends) (i:=i0 x.1) (sr:=x.2.1) (tg:=x.2.2.1) (cm:=[]++x.2.2.2.1) (fg:=[]) (fd:=[]) (d1:=d1) (d2:=d2) hsm A4 r0 r4 hb2;obtain⟨P6,A6,e6⟩:=aJh (bad:=bad) (c:=c2) (bad0:=bad) (at0:=(P:Int)) (e0:=0) (ends:=ends) (i:=i0 x.1) (sr:=x.2.1) (tg:=x.2.2.1) (cm:=[]++x.2.2.2.1) (st:=x.2.2.2.2.2.1) (fd:=[]) (d1:=d1) (d2:=d2) (d3:=d3) hsm hb1 _ P5 [] A5 f2 (by simpa using f3) (by simpa using f1);obtain⟨P7,A7,e7⟩:=a9Q (bad:=bad) (c:=c2) (bad0:=bad) (at0:=(P:Int)) (e0:=0) (ends:=ends) (i:=i0 x.1) (hd:=false) (sr:=x.2.1) (tg:=x.2.2.1) (cm:=[]++x.2.2.2.1) (fg:=[]++x.2.2.2.2.1) (st:=x.2.2.2.2.2.1) (d1:=d1) (d2:=d2) (d3:=d3) hsm _ P6 [] A6 g2 (by simpa using g3) (by simpa using g1);obtain⟨P8,A8,e8⟩:=aJi (bad:=bad) (c:=c2) (bad0:=bad) (at0:=(P:Int)) (e0:=0) (ends:=ends) (i:=i0 x.1) (hd:=false) (sr:=x.2.1) (tg:=x.2.2.1) (cm:=[]++x.2.2.2.1) (fg:=[]++x.2.2.2.2.1) (st:=x.2.2.2.2.2.1) (fd:=[]++x.2.2.2.2.2.2.1) (d1:=d1) (d2:=d2) (d3:=d3) hsm A7 he;refine⟨P8,A8,?_⟩;rw[e1];refine(aVL (fun o=>sZ o _) ((((((e2.trans e3).trans e4).trans e5).trans e6).trans e7).trans e8)).trans ?_;rfl
theorem aRD {tag:pG}{cms:pH}{fds:List s7}(hcom:xL cms=true) (hfld:xM fds=true) (he:ends.length<=5000) (hA:At s P ([32]++(123::(C3 cms++(zG fds++([10,125]++z)))))): ∃P':Nat,At s P' z/\
  vC (s,((P:Int),(bad,(0,(c2,(ends,())))))) (i0 []) true=some ((P':Int),bad,0,ends++[(P':Int)],[],[],cms,[],0,fds):=by
 obtain⟨c1,c2'⟩:=KL hcom;obtain⟨g1,g2,g3⟩:=IS hfld;obtain⟨P1,A1,e1⟩:=aJn (bad:=bad) (c2:=c2) (ends:=ends) (i:=i0 []) (hd:=true) hsm hA;obtain⟨P2,A2,e2⟩:=a9P (bad:=bad) (c:=c2) (bad0:=bad) (at0:=(P:Int)) (e0:=0) (ends:=ends) (i:=i0 []) (hd:=true) (sr:=[]) (tg:=[]) (fg:=[]) (st:=0) (fd:=[]) (d1:=false) (d2:=false) (d3:=false) hsm _ P1 [] A1 c2' (by simpa using c1);obtain⟨P7,A7,e7⟩:=a9Q (bad:=bad) (c:=c2) (bad0:=bad) (at0:=(P:Int)) (e0:=0) (ends:=ends) (i:=i0 []) (hd:=true) (sr:=[]) (tg:=[]) (cm:=[]++cms) (fg:=[]) (st:=0) (d1:=false) (d2:=false) (d3:=false) hsm _ P2 [] A2 g2 (by simpa using g3) (by simpa using g1);obtain⟨P8,A8,e8⟩:=aJi (bad:=bad) (c:=c2) (bad0:=bad) (at0:=(P:Int)) (e0:=0) (ends:=ends) (i:=i0 []) (hd:=true) (sr:=[]) (tg:=[]) (cm:=[]++cms) (fg:=[]) (st:=0) (fd:=[]++fds) (d1:=false) (d2:=false) (d3:=false) hsm A7 he;refine⟨P8,A8,?_⟩;rw[e1];refine(aVL (fun o=>sZ o _) ((e2.trans e7).trans e8)).trans ?_;rfl
theorem aRE (x:t6) (z:pG):yS x++z=[10,10]++([101,110,116,114,121]++([32]++(q3 x.1++([32]++(123::(C3 x.2.2.2.1++(yR MQ x.2.1++(yR MR x.2.2.1++(GY x.2.2.2.2.2.1++(yQ x.2.2.2.2.1++(zG x.2.2.2.2.2.2.1++([10,125]++z)))))))))))):=by
 simp only[yS,MS,FX,FW,IR,aI5,aVi,List.cons_append,List.nil_append]
theorem aRF {x:t6}{tag:pG}{cms:pH}{fds:List s7}{es:List t6}(h:wZ x=true) (hes:es.length<1000) (hnew:(es.any fun y=>decide (y.1=x.1))=false) (he:ends.length<=5000) (hA:At s P (yS x++z)): ∃P':Nat,At s P' z/\
  BE (s,((P:Int),(bad,(0,((tag,(cms,(fds,(es,())))),(ends,()))))))=some ((P':Int),bad,0,es++[x],ends++[(P':Int)]):=by
 have h':=h;unfold wZ at h';simp only[aVg] at h';obtain⟨⟨⟨⟨⟨⟨⟨⟨hne,h200⟩,hid⟩,_⟩,_⟩,_⟩,_⟩,_⟩,_⟩:=h';rw[aRE hsm] at hA;obtain⟨k1,x1,A1⟩:=hA.word aRr pK KK;obtain⟨k2,x2,A2⟩:=A1.str GZ hid;obtain⟨P',A',hb⟩:=aRC (bad:=bad) (c2:=(tag,(cms,(fds,(es,()))))) (ends:=ends) hsm h he A2;refine⟨P',A',?_⟩;unfold BE;rw[AK hsm hA.le,aU7,vJ (by rw[(yM pK pK).2 k1,x1];decide)];dsimp only;rw[AL hsm A1.le pK pK,aU7,vJ (by simpa using k2)];dsimp only;rw[aVa (show¬(!decide ((0:Int)=0))=true from by decide),PP _ _ (show es.length<=5000 by omega),aU7,TB,x2];have hid': ¬(decide (x.1=[])||decide ((200:Int)<(x.1.length:Int)))=true:=by
  simp only[aVG,aVO,aVf] at hne h200;simp [hne];omega
 rw[aVa hid',aVa (fun hh=>aWZ (hnew.symm.trans hh)),aVa (show¬decide ((1000:Int)<=(es.length:Int))=true from by simp;omega)];have hb':vC (s,((nS s (nS s P):Int),(bad,((0:Int),((tag,(cms,(fds,(es,())))),(ends,())))))) (x.1,([],([],([],([],(0,([],()))))))) false=_:=hb;rw[hb',aU7,aU8 pM,aU8 pM];rfl
theorem aRG {c:C4}(ht:uM c.1=true) (hcom:xL c.2.1=true) (hfld:xM c.2.2.1=true) (hA:At s 0 (DT c++z)): ∃P':Nat,At s P' z/\
  CU (s,((0:Int),((0:Int),((0:Int),((([]:pG),(([]:pH),(([]:List r5),(([]:List rZ),())))),(([]:pP),()))))))=some ((P':Int),0,0,c.1,c.2.1,c.2.2.1,[(P':Int)]):=by
 have e:DT c++z=[]++([99,97,116,97,108,111,103]++([32]++(q3 c.1++([32]++(123::(C3 c.2.1++(zG c.2.2.1++([10,125]++z)))))))):=by
  simp only[DT,aJd,aVi,List.cons_append,List.nil_append]
 rw[e] at hA;obtain⟨k1,x1,A1⟩:=hA.word pL pK KK;obtain⟨k2,x2,A2⟩:=A1.str GZ (aJl ht);obtain⟨P',A',hb⟩:=aRD (bad:=0) (c2:=([],([],([],([],()))))) (ends:=[]) (tag:=c.1) hsm hcom hfld pK A2;refine⟨P',A',?_⟩;have hfit:r8 c.1:=by
  unfold uM at ht;simp only[aVg,aVf] at ht;unfold r8;omega
 have h1:vY (s,(((0:Nat):Int),((0:Int),((0:Int),((([]:pG),(([]:pH),(([]:List r5),(([]:List rZ),())))),(([]:pP),())))))) 2 [99,97,116,97,108,111,103]=_:=AK hsm hA.le;have h1':vY (s,((0:Int),((0:Int),((0:Int),((([]:pG),(([]:pH),(([]:List r5),(([]:List rZ),())))),(([]:pP),())))))) 2 [99,97,116,97,108,111,103]=_:=h1;unfold CU;rw[h1',aU7,vJ (by rw[(yM pK pK).2 k1,x1];decide)];dsimp only;rw[AL hsm A1.le pK pK,aU7,vJ (by simpa using k2)];dsimp only;rw[x2,M9 _ hfit,ht,aU8 vS,aVa (show¬(decide ((0:Int)=0)&& !(val (some true)))=true from by decide)];have hb':vC (s,((nS s (nS s 0):Int),((0:Int),((0:Int),(([],([],([],([],())))),(([]:pP),())))))) ([],([],([],([],([],(0,([],()))))))) true=_:=hb;unfold sB;rw[aU7];dsimp only;rw[hb',aU7];rfl
theorem aJo {l:pG}(h:At s P l):P=s.length-l.length/\l.length<=s.length:=by
 have h1:=h.le;have h2:=aVL List.length h.eq;rw[aVh] at h2;omega
end
theorem aRH {es:List t6}(h: ∀i,i<es.length->IP es i=false):es.Pairwise (fun a b=>a.1≠b.1):=by
 rw[aWe];intro i j hi hj hij he;have h1:=h j hj;unfold IP at h1;simp only[aWr,aV1,aVf] at h1;rw[DU hj] at h1;exact h1.1 es[i] (by rw[List.mem_take_iff_getElem];exact⟨i,pJ,rfl⟩) he
theorem TH {c:C4}(h:yP c=true):uM c.1=true/\xL c.2.1=true/\xM c.2.2.1=true/\c.2.2.2.1.length<=1000/\(∀x∈c.2.2.2.1,wZ x=true)/\c.2.2.2.1.Pairwise (fun a b=>a.1≠b.1):=by
 have h':=h;unfold yP at h';simp only[aVg,aVG,aV1,aWV,aVf,aV6] at h';obtain⟨⟨⟨h1,h2⟩,h3⟩,h4,h5⟩:=h';refine⟨h1,h2,h3,pJ,fun x hx=> ?_,aRH h5⟩;obtain⟨i,hi,rfl⟩:=aXc hx;have:=aJe h hi;rwa [DU hi] at this
def aRI {l:pG}(h:(tX l).1=1):tG (tX l).2.1=true:=by
 cases l with
 |nil=>exact absurd h (show¬(4:Int)=1 by decide)
 |cons b t=>
  by_cases h1:b=123\/b=125
  .rw[FT h1] at h;exact absurd h (show¬(3:Int)=1 by decide)
  .by_cases h2:b=34
   .rw[DM h1 h2] at h|-;unfold x9 at h|-;cases he:sU 34 t with
    |none=>rw[he] at h;exact absurd h (show¬(0:Int)=1 by decide)
    |some n=>
     rw[he] at h;dsimp only at h|-;by_cases hb:(yK 3 (t.take n)).2.2≠0\/tG (yK 3 (t.take n)).1=false
     .rw[aU8 hb] at h;exact absurd h (show¬(0:Int)=1 by decide)
     .rw[aVa hb];cases hx:tG (yK 3 (t.take n)).1 with
      |true=>rfl
      |false=>exact absurd (.inr hx) hb
   .by_cases h3:yB b.toNat=true
    .rw[DN h1 h2 h3] at h;exact absurd h (show¬(2:Int)=1 by decide)
    .rw[K9 h1 h2 h3] at h;exact absurd h (show¬(0:Int)=1 by decide)
def TJ {s:pG}{P:Nat}(h:kS s P=1):tG (xS s P)=true:=by
 unfold kS at h;unfold xS;unfold tO at h|-;by_cases hg:(G (s.drop P)).2=true
 .rw[aU8 hg] at h|-;exact aRI h
 .rw[aVa hg] at h;exact absurd h (show¬(0:Int)=1 by decide)
def aRJ {a b:pG}(h: ¬a<b) (hne:a≠b):b<a:=by
 have:=a9q a b;rw[DP,DP] at this;have h1:decide (a<b)=false:=by simpa using h
 have h2:decide (b=a)=false:=by simpa using fun e=>hne e.symm
 rw[h1,h2] at this;simpa using this.symm
def a9R {α:Type}(f:α->pG) {x:α}{p:α->Bool}: ∀{l:List α},l.Pairwise (fun a b=>f a<f b)->(∀y∈l,f y≠f x)->(∀y∈l,p y= !decide (f y<f x))->
  (l.take ((l.findIdx? p).getD l.length)++[x]++l.drop ((l.findIdx? p).getD l.length)).Pairwise (fun a b=>f a<f b)
 |[],_,_,_=>by simp
 |a::t,hp,hne,hpp=>by
  rw[aWX] at hp;have hpa:=hpp a aVw;rw[aWd];by_cases h:f a<f x
  .have hpf:p a=false:=by rw[hpa];simpa using h
   rw[hpf];have ih:=a9R f (x:=x) hp.2 (fun y hy=>hne y (aVr _ hy)) (fun y hy=>hpp y (aVr _ hy));have e:((if false=true then some 0 else(t.findIdx? p).map fun i=>i+1).getD (a::t).length)=(t.findIdx? p).getD t.length+1:=by
    cases t.findIdx? p<;>rfl
   rw[e,List.take_succ_cons,aWS,List.cons_append,List.cons_append,aWX];refine⟨fun y hy=> ?_,ih⟩;rw[aVi] at hy;rcases aWa.1 hy with hy|hy
   .exact hp.1 y (List.mem_of_mem_take hy)
   .rcases aVs.1 hy with rfl|hy
    .exact h
    .exact hp.1 y (List.mem_of_mem_drop hy)
  .have hpt:p a=true:=by rw[hpa];simpa using h
   rw[hpt];have hx:f x<f a:=aRJ h (hne a aVw);show ([]++[x]++(a::t)).Pairwise _;rw[List.nil_append,aV2,aWX];refine⟨fun y hy=> ?_,aWX.2 hp⟩;rcases aVs.1 hy with rfl|hy
   .exact hx
   .exact List.lt_trans hx (hp.1 y hy)
def aJp {α:Type}{l:List α}{x y:α}{k:Nat}(h:y∈l.take k++[x]++l.drop k):y=x\/y∈l:=by
 rw[aVi] at h;rcases aWa.1 h with h|h
 .exact .inr (List.mem_of_mem_take h)
 .rcases aVs.1 h with h|h
  .exact .inl h
  .exact .inr (List.mem_of_mem_drop h)
def aJq {α:Type}{l:List α}{x:α}{k:Nat}:(l.take k++[x]++l.drop k).length=l.length+1:=by
 simp only[aVc,aVx,aVh,aVT];omega
def aRK {l:pH}(h:l.length<=20) (hx: ∀x∈l,tG x=true):xL l=true:=by
 unfold xL;simp only[aVg,aVG,aV1,aVf,aWw,aV6];exact⟨pJ,fun x hxl=>by simpa using hx x hxl⟩
def aJr {α:Type}{r:α->α->Prop}{l:List α}(h:l.Pairwise r) {i:Nat}(h0:0<i) (hi:i<l.length):r l[i-1] l[i]:=by
 rw[aWe] at h;exact h (i-1) i pJ hi pJ
def aRL {l:pH}(h:l.length<=20) (hx: ∀x∈l,sS x=true) (hp:l.Pairwise (· < ·)):DL l=true:=by
 unfold DL;simp only[aVg,aVG,aV1,aVf,aWV,aV6];refine⟨fun i hi=> ?_,pJ⟩;unfold ST;rw[DU hi,hx _ (aV9 hi)];by_cases h0:0<i
 .rw[DU (show i-1<l.length by omega),DP];simp [aJr hp h0 hi]
 .simp [h0]
def aRM {l:List s7}(h:l.length<=20) (hx: ∀x∈l,sS x.1=true/\tG x.2.1=true) (hp:l.Pairwise (fun a b=>a.1<b.1)):xM l=true:=by
 unfold xM;simp only[aVg,aVG,aV1,aVf,aWV,aV6];refine⟨fun i hi=> ?_,pJ⟩;unfold SU;obtain⟨a,b⟩:=hx _ (aV9 hi);rw[DU hi,a,b];by_cases h0:0<i
 .rw[DU (show i-1<l.length by omega),DP];simp [aJr hp h0 hi]
 .simp [h0]
def aRN {l:pH}{x:pG}(h:xL l=true) (hl: ¬20<=l.length) (hx:tG x=true):xL (l++[x])=true:=by
 obtain⟨h1,h2⟩:=KL h;refine aRK (by rw[aVc,aVT];omega) fun y hy=> ?_;rcases aWa.1 hy with hy|hy
 .exact h2 y hy
 .rw[aVm.1 hy];exact hx
def aRO {l:pH}{x:pG}(h:DL l=true) (hl: ¬20<=l.length) (hx:sS x=true) (hn: ¬(l.any fun y=>decide (y=x))=true):DL (EN l x)=true:=by
 obtain⟨h1,h2,h3⟩:=TG h;have hne: ∀y∈l,y≠x:=fun y hy e=>hn (List.any_eq_true.2 ⟨y,hy,by simp [e]⟩);unfold EN yN;refine aRL (by rw[aJq];omega) (fun y hy=> ?_) (a9R (fun y=>y) h3 hne fun y _=>by rw[DP]);rcases aJp hy with rfl|hy
 .exact hx
 .exact h2 y hy
def aRP {l:List s7}{n v:pG}(h:xM l=true) (hl: ¬20<=l.length) (hx:sS n=true) (hv:tG v=true) (hn: ¬(l.any fun y=>decide (y.1=n))=true):xM (BG l n v)=true:=by
 obtain⟨h1,h2,h3⟩:=IS h;have hne: ∀y∈l,y.1≠n:=fun y hy e=>hn (List.any_eq_true.2 ⟨y,hy,by simp [e]⟩);have hk:AI l n=none:=by
  unfold AI;rw[aWl];intro y hy;simpa using hne y hy
 unfold BG;rw[hk];show xM (l.take (FR l n)++[(n,v,())]++l.drop (FR l n))=true;unfold FR;refine aRM (by rw[aJq];omega) (fun y hy=> ?_) (a9R (fun y:s7=>y.1) (x:=(n,v,())) h3 hne fun y hy=> ?_)
 .rcases aJp hy with rfl|hy
  .exact⟨hx,hv⟩
  .exact⟨(h2 y hy).1,(h2 y hy).2.2⟩
 .rw[DP];have:decide (y.1=n)=false:=by simpa using hne y hy
  rw[this,Bool.or_false]
structure KM (sr tg:pG) (cm fg:pH) (st:Int) (fd:List s7):Prop where
 sr:tG sr=true
 tg:tG tg=true
 cm:xL cm=true
 fg:DL fg=true
 st:0<=st/\st<=4
 fd:xM fd=true
theorem a9S:KM [] [] [] [] 0 []:=⟨pK,pK,pK,pK,pK,pK⟩
theorem aRQ (x:pG) (h: ¬uJ x<0):0<=uJ x/\uJ x<=4:=by
 refine⟨pJ,?_⟩;unfold uJ at h|-;cases hk:xU.findIdx? fun y=>decide (y=x) with
 |none=>exact show ((-1:Int))<=4 by decide
 |some k=>
  have hl:k<xU.length:=(aVM.1 hk).1;have hl':xU.length=5:=rfl;show ((k:Nat):Int)<=4;omega
section
variable {s:pG}(hsm:s.length<=4000000000) {c:C4}{bad bad0 at0 e0:Int}{ends:pP}{i:rZ}{hd:Bool}
include hsm
def aRR (s:pG) (P:Nat) (bad:Int) (rs:IM):Prop:=
 rs.2.2.1≠0\/∃(P':Nat) (sr tg:pG) (cm fg:pH) (st:Int) (fd:List s7) (d1 d2 d3:Bool),P<P'/\P'<=s.length/\rs=((P':Int),bad,0,sr,tg,cm,fg,st,fd,d1,d2,d3)/\KM sr tg cm fg st fd
theorem aJs {P:Nat}{sr tg:pG}{cm fg:pH}{st:Int}{fd:List s7}{d1 d2 d3:Bool}(hP:P<=s.length) (hk:kS s P=2) (h:KM sr tg cm fg st fd):
  ∃rs:IM,uL (s,(at0,(bad0,(e0,(c,(ends,())))))) i hd ((P:Int),bad,0,sr,tg,cm,fg,st,fd,d1,d2,d3)=some (.inl rs)/\aRR s P bad rs:=by
 have hPQ:P<nS s P:=wS pJ pJ;have hQ:=(tC hP).2;have hR:=tC hQ;rw[AM hsm hP hk];have hcl:=(KL h.cm).1;have hfl:=(TG h.fg).1;have hdl:=(IS h.fd).1;have e3:(3:Int)≠0:=by decide
 have e6:(6:Int)≠0:=by decide
 have e9:(9:Int)≠0:=by decide
 by_cases h1:xS s P=xW
 .by_cases h20:20<=cm.length
  .rw[a9A hsm hQ h1 h20,aU7];exact⟨_,rfl,.inl e6⟩
  .rw[T7 hsm hQ h1 h20,aU7];by_cases k1:kS s (nS s P)=1
   .rw[aU8 k1];exact⟨_,rfl,.inr ⟨nS s (nS s P),_,_,_,_,_,_,_,_,_,pJ,pJ,rfl,h.sr,h.tg,aRN h.cm h20 (TJ k1),h.fg,h.st,h.fd⟩⟩
   .rw[aVa k1];exact⟨_,rfl,.inl e3⟩
 .by_cases h2:xS s P=zE
  .rw[T8 hsm hQ h2 pJ,aU7];unfold EM;by_cases k1:kS s (nS s P)≠1
   .rw[aU8 k1];exact⟨_,rfl,.inl e3⟩
   .rw[aVa k1];by_cases k2:sS (xS s (nS s P))=false
    .rw[aU8 k2];exact⟨_,rfl,.inl e3⟩
    .rw[aVa k2];by_cases k3:(fd.any fun y=>decide (y.1=xS s (nS s P)))=true
     .rw[aU8 k3];exact⟨_,rfl,.inl e9⟩
     .rw[aVa k3];by_cases k4:20<=fd.length
      .rw[aU8 k4];exact⟨_,rfl,.inl e6⟩
      .rw[aVa k4];have hS:=tC hR.2;by_cases k5:kS s (nS s (nS s P))≠1
       .rw[aU8 k5];exact⟨_,rfl,.inl e3⟩
       .rw[aVa k5];exact⟨_,rfl,.inr ⟨nS s (nS s (nS s P)),_,_,_,_,_,_,_,_,_,pJ,pJ,rfl,h.sr,h.tg,h.cm,h.fg,h.st,aRP h.fd k4 (by simpa using k2) (TJ pJ) k3⟩⟩
  .cases hd with
   |true=>
    rw[a9B hsm hQ h1 h2,aU7];exact⟨_,rfl,.inl e3⟩
   |false=>
    by_cases h3:xS s P=CW
    .rw[T9 hsm hQ h3 pJ,aU7];unfold EO;by_cases k1:kS s (nS s P)≠2
     .rw[aU8 k1];exact⟨_,rfl,.inl e3⟩
     .rw[aVa k1];by_cases k2:sS (xS s (nS s P))=false
      .rw[aU8 k2];exact⟨_,rfl,.inl e3⟩
      .rw[aVa k2];by_cases k3:(fg.any fun y=>decide (y=xS s (nS s P)))=true
       .rw[aU8 k3];exact⟨_,rfl,.inl e9⟩
       .rw[aVa k3];by_cases k4:20<=fg.length
        .rw[aU8 k4];exact⟨_,rfl,.inl e6⟩
        .rw[aVa k4];exact⟨_,rfl,.inr ⟨nS s (nS s P),_,_,_,_,_,_,_,_,_,pJ,pJ,rfl,h.sr,h.tg,h.cm,aRO h.fg k4 (by simpa using k2) k3,h.st,h.fd⟩⟩
    .rw[EP hsm hQ h1 h2 h3,aU7];by_cases k0:((decide (xS s P=uC)&&d1)||(decide (xS s P=uD)&&d2)||(decide (xS s P=uP)&&d3))=true
     .rw[aU8 k0];exact⟨_,rfl,.inl e9⟩
     .rw[aVa k0];by_cases a1:xS s P=uC
      .rw[aU8 a1];by_cases k1:kS s (nS s P)=1
       .rw[aU8 k1];exact⟨_,rfl,.inr ⟨nS s (nS s P),_,_,_,_,_,_,_,_,_,pJ,pJ,rfl,TJ k1,h.tg,h.cm,h.fg,h.st,h.fd⟩⟩
       .rw[aVa k1];exact⟨_,rfl,.inl e3⟩
      .rw[aVa a1];by_cases a2:xS s P=uD
       .rw[aU8 a2];by_cases k1:kS s (nS s P)=1
        .rw[aU8 k1];exact⟨_,rfl,.inr ⟨nS s (nS s P),_,_,_,_,_,_,_,_,_,pJ,pJ,rfl,h.sr,TJ k1,h.cm,h.fg,h.st,h.fd⟩⟩
        .rw[aVa k1];exact⟨_,rfl,.inl e3⟩
       .rw[aVa a2];by_cases a3:xS s P=uP
        .rw[aU8 a3];by_cases k1:kS s (nS s P)=2
         .rw[aU8 k1];by_cases k2:uJ (xS s (nS s P))<0
          .rw[aU8 k2];exact⟨_,rfl,.inl e3⟩
          .rw[aVa k2];exact⟨_,rfl,.inr ⟨nS s (nS s P),_,_,_,_,_,_,_,_,_,pJ,pJ,rfl,h.sr,h.tg,h.cm,h.fg,aRQ _ k2,h.fd⟩⟩
         .rw[aVa k1];exact⟨_,rfl,.inl e3⟩
        .rw[aVa a3];exact⟨_,rfl,.inl e3⟩
def aRS (s:pG) (P:Nat) (bad:Int) (ends:pP) (ro:S9⊕GW):Prop:=
 (∃r9,ro= .inl r9/\r9.2.2.1≠0)\/(∃r10,ro= .inr r10/\r10.2.2.1≠0)\/
 ∃(P':Nat) (sr tg:pG) (cm fg:pH) (st:Int) (fd:List s7),P<P'/\P'<=s.length/\ro= .inr ((P':Int),bad,0,ends++[(P':Int)],sr,tg,cm,fg,st,fd)/\KM sr tg cm fg st fd
theorem YP (he:ends.length<=5000): ∀(n P:Nat) (sr tg:pG) (cm fg:pH) (st:Int) (fd:List s7) (d1 d2 d3:Bool),s.length-P<=n->P<=s.length->KM sr tg cm fg st fd->
  ∃ro,rE (uL (s,(at0,(bad0,(e0,(c,(ends,())))))) i hd) ((P:Int),bad,0,sr,tg,cm,fg,st,fd,d1,d2,d3)=some ro/\aRS s P bad ends ro
 |n,P,sr,tg,cm,fg,st,fd,d1,d2,d3,hn,hP,h=>by
  by_cases hk:kS s P=2
  .obtain⟨rs,h1,h2⟩:=aJs (c:=c) (bad:=bad) (bad0:=bad0) (at0:=at0) (e0:=e0) (ends:=ends) (i:=i) (hd:=hd) (d1:=d1) (d2:=d2) (d3:=d3) hsm hP hk h;rw[AO h1];rcases h2 with h2|⟨P',sr',tg',cm',fg',st',fd',d1',d2',d3',p1,p2,rfl,h3⟩
   .obtain⟨p,b,e,q1,q2,q3,q4,q5,q6,q7,q8,q9⟩:=rs;rw[vB (ML h2)];exact⟨_,rfl,.inl ⟨_,rfl,h2⟩⟩
   .match n,hn with
    |0,hn=>exact absurd p2 pJ
    |n+1,hn=>
     obtain⟨ro,r1,r2⟩:=YP he n P' sr' tg' cm' fg' st' fd' d1' d2' d3' pJ p2 h3;refine⟨ro,r1,?_⟩;rcases r2 with r2|r2|⟨P2,a1,a2,a3,a4,a5,a6,g1,g2,g3,g4⟩
     .exact .inl r2
     .exact .inr (.inl r2)
     .exact .inr (.inr ⟨P2,a1,a2,a3,a4,a5,a6,pJ,g2,g3,g4⟩)
  .by_cases hx:kS s P=3/\xS s P=[125]
   .rw[vB (TA hsm hP hx.1 hx.2 he)];have hQ:=tC hP;have hQ2:P<nS s P:=wS pJ pJ;exact⟨_,rfl,.inr (.inr ⟨nS s P,_,_,_,_,_,_,hQ2,hQ.2,rfl,h⟩)⟩
   .rw[vB (a9E hsm hP hk hx)];exact⟨_,rfl,.inr (.inl ⟨_,rfl,show (3:Int)≠0 by decide⟩)⟩
def aRT (s:pG) (P:Nat) (bad:Int) (ends:pP) (r:GW):Prop:=
 r.2.2.1≠0\/∃(P':Nat) (sr tg:pG) (cm fg:pH) (st:Int) (fd:List s7),P<=P'/\P'<=s.length/\r=((P':Int),bad,0,ends++[(P':Int)],sr,tg,cm,fg,st,fd)/\KM sr tg cm fg st fd
theorem YQ {x:pG}{P:Nat}(hP:P<=s.length) (he:ends.length<=5000): ∃r,vC (s,((P:Int),(bad,(0,(c,(ends,())))))) (i0 x) hd=some r/\aRT s P bad ends r:=by
 unfold vC;rw[AK hsm hP,aU7];by_cases h1:(decide (kR (kS s P)=3)&&(decide (([123]:pG)=[])||decide (xS s P=[123])))=true
 .rw[vJ h1];dsimp only;have hQ:=tC hP;obtain⟨ro,r1,r2⟩:=YP (c:=c) (bad:=bad) (bad0:=bad) (at0:=(P:Int)) (e0:=0) (i:=i0 x) (hd:=hd) hsm he s.length (nS s P) [] [] [] [] 0 [] false false false pJ hQ.2 a9S;have r1':rE (uL (s,((P:Int),(bad,((0:Int),(c,(ends,())))))) (i0 x) hd) ((nS s P:Int),bad,0,(i0 x).2.1,(i0 x).2.2.1,(i0 x).2.2.2.1,(i0 x).2.2.2.2.1,(i0 x).2.2.2.2.2.1,(i0 x).2.2.2.2.2.2.1,false,false,false)=some ro:=r1;rw[r1'];rcases r2 with⟨r9,rfl,r2⟩ |⟨r10,rfl,r2⟩ |⟨P2,a1,a2,a3,a4,a5,a6,g1,g2,rfl,g4⟩
  .exact⟨_,rfl,.inl r2⟩
  .exact⟨_,rfl,.inl r2⟩
  .exact⟨_,rfl,.inr ⟨P2,a1,a2,a3,a4,a5,a6,pJ,g2,rfl,g4⟩⟩
 .rw[xN h1];dsimp only;rw[vB (ML (show (3:Int)≠0 by decide))];exact⟨_,rfl,.inl (show (3:Int)≠0 by decide)⟩
end
theorem aRU {id sr tg:pG}{cm fg:pH}{st:Int}{fd:List s7}(hi:FU id=true) (ht:tG id=true) (h:KM sr tg cm fg st fd):wZ (id,(sr,(tg,(cm,(fg,(st,(fd,())))))))=true:=by
 unfold FU at hi;unfold wZ;dsimp only;rw[aVg] at hi;rw[hi.1,hi.2,ht,h.sr,h.tg,h.cm,h.fg,h.fd,aWh h.st.1,aWh h.st.2];rfl
structure DW (es:List t6):Prop where
 len:es.length<=1000
 ok: ∀x∈es,wZ x=true
 pw:es.Pairwise (fun a b=>a.1≠b.1)
section
variable {s:pG}(hsm:s.length<=4000000000) {bad:Int}{ends:pP}{tag:pG}{cms:pH}{fds:List s7}{es:List t6}
include hsm
def aRV (s:pG) (P:Nat) (bad:Int) (ends:pP) (es:List t6) (r:E5):Prop:=
 r.2.2.1≠0\/∃(P':Nat) (y:t6),P<P'/\P'<=s.length/\r=((P':Int),bad,0,es++[y],ends++[(P':Int)])/\DW (es++[y])
theorem aJt {P:Nat}(hP:P<=s.length) (he:ends.length<=5000) (hes:DW es): ∃r,BE (s,((P:Int),(bad,(0,((tag,(cms,(fds,(es,())))),(ends,()))))))=some r/\aRV s P bad ends es r:=by
 have hQ:=tC hP;have hR:=tC hQ.2;have e3:(3:Int)≠0:=by decide
 unfold BE;rw[AK hsm hP,aU7];by_cases h0:(decide (kR (kS s P)=2)&&(decide (([101,110,116,114,121]:pG)=[])||decide (xS s P=[101,110,116,114,121])))=true
 .have hk:kS s P=2:=(yM pK pK).1 (by rw[aVg,aVf] at h0;exact h0.1);have hPQ:P<nS s P:=wS pJ pJ;rw[vJ h0];dsimp only;rw[AL hsm hQ.2 pK pK,aU7];by_cases hk1:kS s (nS s P)=1
  .rw[vJ (by simpa using hk1)];dsimp only;rw[aVa (show¬(!decide ((0:Int)=0))=true from by decide),PP _ _ (show es.length<=5000 by have:=hes.len;omega),aU7,TB];dsimp only;by_cases hid:(decide (xS s (nS s P)=[])||decide ((200:Int)<((xS s (nS s P)).length:Int)))=true
   .rw[aU8 hid];unfold sH;rw[wR];exact⟨_,rfl,.inl e3⟩
   .rw[aVa hid];by_cases hdup:(es.any fun y=>decide (y.1=xS s (nS s P)))=true
    .rw[aU8 hdup];unfold sH;rw[wR];exact⟨_,rfl,.inl (show (9:Int)≠0 by decide)⟩
    .rw[aVa hdup];by_cases hm:(1000:Int)<=(es.length:Int)
     .rw[aU8 (show decide ((1000:Int)<=(es.length:Int))=true from aWh hm)];unfold sH;rw[wR];exact⟨_,rfl,.inl (show (6:Int)≠0 by decide)⟩
     .rw[aVa (show¬decide ((1000:Int)<=(es.length:Int))=true from by simpa using hm)];obtain⟨r,h1,h2⟩:=YQ (c:=(tag,(cms,(fds,(es,()))))) (bad:=bad) (hd:=false) (x:=xS s (nS s P)) hsm hR.2 he;have h1':vC (s,((nS s (nS s P):Int),(bad,((0:Int),((tag,(cms,(fds,(es,())))),(ends,())))))) (xS s (nS s P),([],([],([],([],(0,([],()))))))) false=some r:=h1;rw[h1',aU7,aU8 pM,aU8 pM];rcases h2 with h2|⟨P',sr,tg,cm,fg,st,fd,g1,g2,rfl,g3⟩
      .exact⟨_,rfl,.inl h2⟩
      .refine⟨_,rfl,.inr ⟨P',(xS s (nS s P),(sr,(tg,(cm,(fg,(st,(fd,()))))))),pJ,g2,rfl,?_,?_,?_⟩⟩
       .rw[aVc,aVT];omega
       .intro x hx;rcases aWa.1 hx with hx|hx
        .exact hes.ok x hx
        .rw[aVm.1 hx];refine aRU ?_ (TJ hk1) g3;unfold FU;simp only[aVZ,aVf,not_or] at hid;simp only[aVg,aVG,aVO,aVf];exact⟨hid.1,pJ⟩
       .rw[aWy];refine⟨hes.pw,aWK _ _,fun a ha b hb=> ?_⟩;rw[aVm.1 hb];intro e;exact hdup (List.any_eq_true.2 ⟨a,ha,aWh e⟩)
  .rw[xN (by simpa using hk1)];dsimp only;rw[aU8 (show (!decide ((3:Int)=0))=true from by decide)];exact⟨_,rfl,.inl e3⟩
 .rw[xN h0];dsimp only;rw[KB hsm hP e3,aU7];dsimp only;rw[aU8 (show (!decide ((3:Int)=0))=true from by decide)];exact⟨_,rfl,.inl e3⟩
theorem aJu {rr:Int×Int×Int×pG×pH×List r5×pP}: ∀(n P:Nat) (es:List t6) (ends:pP),s.length-P<=n->P<=s.length->DW es->ends.length=es.length+1->
  ∃ro,rE (vD s rr) ((P:Int),bad,0,es,ends)=some ro/\(ro.2.2.1=0->DW ro.2.2.2.1/\ro.2.2.2.2.length=ro.2.2.2.1.length+1)
 |n,P,es,ends,hn,hP,hes,hle=>by
  have hg:=PM (KA hsm) hP;by_cases hlt:P+(G (s.drop P)).1<s.length
  .obtain⟨r,h1,h2⟩:=aJt (bad:=bad) (tag:=rr.2.2.2.1) (cms:=rr.2.2.2.2.1) (fds:=rr.2.2.2.2.2.1) hsm hP (show ends.length<=5000 by have:=hes.len;omega) hes;have hst:vD s rr ((P:Int),bad,0,es,ends)=some (.inl r):=by
    unfold vD;dsimp only;rw[hg,aU8 vS,aU8 (show (decide ((0:Int)=0)&&decide (val (some (((P+(G (s.drop P)).1:Nat):Int)))<(s.length:Int)))=true from by
     show (decide ((0:Int)=0)&&decide (((P+(G (s.drop P)).1:Nat):Int)<(s.length:Int)))=true;simp;omega),h1,aU7]
   rw[AO hst];rcases h2 with h2|⟨P',y,p1,p2,rfl,h3⟩
   .obtain⟨p,b,e,q1,q2⟩:=r;have h2':e≠0:=h2;have hs2:vD s rr (p,b,e,q1,q2)=some (.inr (p,b,e,q1,q2)):=by
     unfold vD;dsimp only;rw[aU8 (by intro hh;simp [h2'] at hh),aVa (by simp [h2'])]
    rw[vB hs2];exact⟨_,rfl,fun h=>absurd h h2'⟩
   .match n,hn with
    |0,hn=>exact absurd p2 pJ
    |n+1,hn=>exact aJu n P' _ _ pJ p2 h3 (by simp only[aVc,aVT];omega)
  .have hst:vD s rr ((P:Int),bad,0,es,ends)=some (.inr ((P:Int),bad,0,es,ends)):=by
    unfold vD;dsimp only;rw[hg,aU8 vS,aVa];show¬(decide ((0:Int)=0)&&decide (((P+(G (s.drop P)).1:Nat):Int)<(s.length:Int)))=true;simp;omega
   rw[vB hst];exact⟨_,rfl,fun _=>⟨hes,hle⟩⟩
def aRW (s:pG) (r:H7):Prop:=
 r.2.2.1≠0\/∃(P':Nat) (tag:pG) (cm:pH) (fd:List s7),P'<=s.length/\r=((P':Int),0,0,tag,cm,fd,[(P':Int)])/\uM tag=true/\xL cm=true/\xM fd=true
theorem aJv: ∃r,CU (s,((0:Int),((0:Int),((0:Int),((([]:pG),(([]:pH),(([]:List r5),(([]:List rZ),())))),(([]:pP),()))))))=some r/\aRW s r:=by
 have hP:0<=s.length:=aVX _;have hQ:=tC hP;have hR:=tC hQ.2;have e3:(3:Int)≠0:=by decide
 have h1:vY (s,(((0:Nat):Int),((0:Int),((0:Int),((([]:pG),(([]:pH),(([]:List r5),(([]:List rZ),())))),(([]:pP),())))))) 2 [99,97,116,97,108,111,103]=_:=AK hsm hP;have h1':vY (s,((0:Int),((0:Int),((0:Int),((([]:pG),(([]:pH),(([]:List r5),(([]:List rZ),())))),(([]:pP),())))))) 2 [99,97,116,97,108,111,103]=_:=h1;unfold CU;rw[h1',aU7];by_cases h0:(decide (kR (kS s 0)=2)&&(decide (([99,97,116,97,108,111,103]:pG)=[])||decide (xS s 0=[99,97,116,97,108,111,103])))=true
 .rw[vJ h0];dsimp only;rw[AL hsm hQ.2 pK pK,aU7];by_cases hk1:kS s (nS s 0)=1
  .rw[vJ (by simpa using hk1)];dsimp only;rw[M9 _ (KC hsm hQ.2),aU8 vS];by_cases ht:uM (xS s (nS s 0))=true
   .rw[aVa (show¬(decide ((0:Int)=0)&& !val (some (uM (xS s (nS s 0)))))=true from by rw[ht];decide)];unfold sB;rw[aU7];dsimp only;obtain⟨r,g1,g2⟩:=YQ (c:=([],([],([],([],()))))) (bad:=0) (ends:=[]) (hd:=true) (x:=[]) hsm hR.2 pK;have g1':vC (s,((nS s (nS s 0):Int),((0:Int),((0:Int),(([],([],([],([],())))),(([]:pP),())))))) ([],([],([],([],([],(0,([],()))))))) true=some r:=g1;rw[g1',aU7];rcases g2 with g2|⟨P',sr,tg,cm,fg,st,fd,q1,q2,rfl,q3⟩
    .exact⟨_,rfl,.inl g2⟩
    .exact⟨_,rfl,.inr ⟨P',_,_,_,q2,rfl,ht,q3.cm,q3.fd⟩⟩
   .rw[aU8 (show (decide ((0:Int)=0)&& !val (some (uM (xS s (nS s 0)))))=true from by rw[show uM (xS s (nS s 0))=false from by simpa using ht];decide)];unfold sH;rw[wR];unfold sB;rw[aU7];dsimp only;obtain⟨ro,hro,g1,g2⟩:=IN (P:=nS s (nS s 0)) (c2:=([],([],([],([],()))))) (bad:=(fS s (nS s 0):Int)) (e:=3) (ends2:=[]) (hd:=true) (i:=i0 []) hsm hR.2 pK;have hro':vC (s,((nS s (nS s 0):Int),((fS s (nS s 0):Int),((3:Int),(([],([],([],([],())))),(([]:pP),())))))) ([],([],([],([],([],(0,([],()))))))) true=some ro:=hro;rw[hro',aU7];exact⟨_,rfl,.inl (by show ro.2.2.1≠0;rw[g2];decide)⟩
  .rw[xN (by simpa using hk1)];dsimp only;rw[aU8 (by intro hh;simp at hh),aVa (show¬(decide ((3:Int)=0)&& !val (I6 (xS s (nS s 0))))=true from by simp)];unfold sB;rw[aU7];dsimp only;obtain⟨ro,hro,g1,g2⟩:=IN (P:=nS s 0) (c2:=([],([],([],([],()))))) (bad:=(fS s (nS s 0):Int)) (e:=3) (ends2:=[]) (hd:=true) (i:=i0 []) hsm hQ.2 pK;have hro':vC (s,((nS s 0:Int),((fS s (nS s 0):Int),((3:Int),(([],([],([],([],())))),(([]:pP),())))))) ([],([],([],([],([],(0,([],()))))))) true=some ro:=hro;rw[hro',aU7];exact⟨_,rfl,.inl (by show ro.2.2.1≠0;rw[g2];decide)⟩
 .rw[xN h0];dsimp only;have h2:vY (s,(((0:Nat):Int),((fS s 0:Int),((3:Int),((([]:pG),(([]:pH),(([]:List r5),(([]:List rZ),())))),(([]:pP),())))))) 1 []=_:=KB hsm hP e3;rw[h2,aU7];dsimp only;rw[aU8 (by intro hh;simp at hh),aVa (show¬(decide ((3:Int)=0)&& !val (I6 (xS s 0)))=true from by simp)];unfold sB;rw[aU7];dsimp only;obtain⟨ro,hro,g1,g2⟩:=IN (P:=0) (c2:=([],([],([],([],()))))) (bad:=(fS s 0:Int)) (e:=3) (ends2:=[]) (hd:=true) (i:=i0 []) hsm hP pK;have hro':vC (s,(((0:Nat):Int),((fS s 0:Int),((3:Int),(([],([],([],([],())))),(([]:pP),())))))) ([],([],([],([],([],(0,([],()))))))) true=some ro:=hro;rw[hro',aU7];exact⟨_,rfl,.inl (by show ro.2.2.1≠0;rw[g2];decide)⟩
omit hsm in
theorem a9T {c:C4}(h1:uM c.1=true) (h2:xL c.2.1=true) (h3:xM c.2.2.1=true) (h4:DW c.2.2.2.1):yP c=true:=by
 unfold yP;rw[h1,h2,h3,aWh (show ((c.2.2.2.1.length:Int))<=1000 by have:=h4.len;omega)];simp only[Bool.true_and,aVG,aV1,aWV,aV6];intro i hi;unfold IP;rw[DU hi,h4.ok _ (aV9 hi)];simp only[Bool.not_true,Bool.or_false,aV1,aVf];intro y hy;rw[List.mem_take_iff_getElem] at hy;obtain⟨j,hj,rfl⟩:=hy;exact aWe.1 h4.pw j i pJ hi pJ
theorem aJw: ∃v,EI s=some v/\(v.2.2.2.2.2.2=0->yP (v.1,(v.2.1,(v.2.2.1,(v.2.2.2.1,()))))=true)/\(v.2.2.2.2.2.2≠0->v.1=[]/\v.2.1=[]/\v.2.2.1=[]/\v.2.2.2.1=[]/\v.2.2.2.2.1=[])/\(v.2.2.2.2.2.2=0->v.2.2.2.2.2.1=0/\v.2.2.2.2.1.length=v.2.2.2.1.length+1):=by
 obtain⟨r,h1,h2⟩:=aJv hsm;unfold EI;rw[h1,aU7];rcases h2 with h2|⟨P',tag,cm,fd,p1,rfl,t1,t2,t3⟩
 .obtain⟨p,b,e,q1,q2,q3,q4⟩:=r;have h2':e≠0:=h2;have hs2:vD s (p,b,e,q1,q2,q3,q4) (p,b,e,[],q4)=some (.inr (p,b,e,[],q4)):=by
   unfold vD;dsimp only;rw[aU8 (by intro hh;simp [h2'] at hh),aVa (by simp [h2'])]
  dsimp only;rw[vB hs2];unfold sB;rw[aU7];dsimp only;rw[aU8 (by simp [h2'])];exact⟨_,rfl,fun h=>absurd h h2',fun _=>⟨rfl,rfl,rfl,rfl,rfl⟩,fun h=>absurd h h2'⟩
 .dsimp only;obtain⟨ro,g1,g2⟩:=aJu (bad:=0) (rr:=((P':Int),0,0,tag,cm,fd,[(P':Int)])) hsm s.length P' [] [(P':Int)] pJ p1 ⟨pK,fun x hx=>(by cases hx),List.Pairwise.nil⟩ pL;rw[g1];unfold sB;rw[aU7];obtain⟨p,b,e,q1,q2⟩:=ro;dsimp only;by_cases he:e=0
  .rw[aVa (by simp [he])];exact⟨_,rfl,fun _=>a9T t1 t2 t3 (g2 he).1,fun h=>absurd rfl h,fun _=>⟨rfl,(g2 he).2⟩⟩
  .rw[aU8 (by simp [he])];exact⟨_,rfl,fun h=>absurd h he,fun _=>⟨rfl,rfl,rfl,rfl,rfl⟩,fun h=>absurd h he⟩
end
section
variable {s:pG}(hsm:s.length<=4000000000)
include hsm
theorem a9U: ∃v,zD s=some v/\OY s=some v/\r8 v.2.1/\r8 v.2.2.1/\r8 v.2.2.2.1/\∀y∈v.2.2.2.1,MM y:=by
 obtain⟨ph,rh,hph,hrh,hres⟩:=aIU (P:=0) (a:=0) (en:=0) (bad:=0) (c:=([],([],([],([],()))))) (c2:=([],([],([],([],()))))) (ends:=[]) (ids:=[]) hsm (aVX _) pK;have hnx:=a9y hsm (aVX s.length);have hnx':CS (s,((0:Int),()))=some (kS s 0,xS s 0,(fS s 0:Int),(nS s 0:Int),(nS s 0:Int)):=hnx;have hrh':CU (s,((0:Int),((0:Int),((0:Int),((([]:pG),(([]:pH),(([]:List r5),(([]:List rZ),())))),(([]:pP),()))))))=some rh:=hrh;unfold zD wP OY EI;rw[hnx',aU7];dsimp only;rw[hph,aU7,hrh',aU7];rcases hres with⟨P',tag,cm,fd,g1,g2,rfl,rfl,f1,f2⟩ |hb
 .obtain⟨po,ro,h1,h2,h3⟩:=a9M (a:=0) (bad:=0) (hp:=((nS s P':Int),kS s P',xS s P',(fS s P':Int),(nS s P':Int),0,0,tag,cm,fd,[]++[(P':Int)],(P':Int))) (hr:=((P':Int),0,0,tag,cm,fd,[]++[(P':Int)])) hsm s.length P' [] ([]++[(P':Int)]) (P':Int) [] pJ g2 pK pL (fun _=>rfl) (fun _ h=>by cases h) (aIV P');dsimp only;rw[h1,h2];unfold sB;rw[aU7,aU7];dsimp only;rw[aU7];rcases h3 with⟨e1,e2,e3,e4,e5,e6,_,_⟩ |⟨e1,e2,e3⟩
  .rw[aVa (by simp [e1]),aVa (by simp [e2]),aU7,e3];exact⟨_,rfl,rfl,f1,f2,(show r8 po.2.2.2.2.2.2.2.1 from by unfold r8;omega),e6⟩
  .rw[aU8 (by simp [e1]),aU8 (by simp [e3,e1]),aU7,e2,e3];exact⟨_,rfl,rfl,PT,PT,PT,fun _ h=>by cases h⟩
 .obtain⟨b1,b2,b3⟩:=hb;have e3:DJ s ph (ph.1,ph.2.1,ph.2.2.1,ph.2.2.2.1,ph.2.2.2.2.1,ph.2.2.2.2.2.1,ph.2.2.2.2.2.2.1,[],ph.2.2.2.2.2.2.2.2.2.2.1,ph.2.2.2.2.2.2.2.2.2.2.2,[])=some (.inr (ph.1,ph.2.1,ph.2.2.1,ph.2.2.2.1,ph.2.2.2.2.1,ph.2.2.2.2.2.1,ph.2.2.2.2.2.2.1,[],ph.2.2.2.2.2.2.2.2.2.2.1,ph.2.2.2.2.2.2.2.2.2.2.2,[])):=by
   unfold DJ;dsimp only;rw[aVa (by simp [b1])]
  have e4:vD s rh (rh.1,rh.2.1,rh.2.2.1,[],rh.2.2.2.2.2.2)=some (.inr (rh.1,rh.2.1,rh.2.2.1,[],rh.2.2.2.2.2.2)):=by
   have h3:rh.2.2.1≠0:=by rw[b3];exact b1
   unfold vD;dsimp only;rw[aU8 (by intro hh;simp [h3] at hh),aVa (by simp [h3])]
  rw[vB e3,vB e4];unfold sB;rw[aU7,aU7];dsimp only;rw[aU7];dsimp only;rw[aU8 (by simp [b1]),aU8 (by simp [b3,b1]),aU7,b2,b3];exact⟨_,rfl,rfl,PT,PT,PT,fun _ h=>by cases h⟩
end
theorem a9V {α:Type}{f:Int->Option (Int⊕(Unit⊕Bool))}(l:List α) (hf: ∀(i:Nat) (h:i<l.length),f i=some (.inl (i+1))) (he:f l.length=some (.inr (.inl ()))):
  rE f 0=some (.inl ()):=by
 have h:=CN (f:=f) (l:=l) (fun _=>false) (fun _=>false) (fun i h=>by rw[aVa aWZ];exact hf i h) he;rw[h];have:l.findIdx? (fun _=>false)=none:=aWl.2 (fun _ _=>rfl);rw[this];rfl
theorem PV (l:pH) (hl:r8 l):xH l l=some true:=by
 unfold r8 at hl;unfold xH;rw[aVa pL,a9V l (fun i h=>by
  unfold WN;rw[aU8 (uI h),aU8 (sN h),aU8 (sN h),aVa pL,aU8 (tN pJ)]) (by
  unfold WN;rw[aVa (vZ _)])]
 rfl
theorem YR (l:List s7) (hl:r8 l):B5 l l=some true:=by
 unfold r8 at hl;unfold B5;rw[aVa pL,a9V l (fun i h=>by
  unfold WO;rw[aU8 (uI h),aU8 (sN h),aU8 (sN h),aVa pL,aU8 (tN pJ)]) (by
  unfold WO;rw[aVa (vZ _)])]
 rfl
theorem aRX (y:rZ) (h:MM y):O5 y y=some ():=by
 unfold O5;rw[PV _ h.1,PV _ h.2.1,YR _ h.2.2,aU8 vS,aU8 vS,aU8 vS]
theorem aJx (l:List rZ) (hl:r8 l) (h: ∀y∈l,MM y):FI l l=some true:=by
 unfold r8 at hl;unfold FI;rw[aVa pL,a9V l (fun i hi=>by
  have hy:=h l[i] (aV9 hi);unfold X5;rw[aU8 (uI hi),aU8 (sN hi),aU8 (sN hi),z6 (t:=t7) hi];rw[aRX _ hy,aU7,PV _ hy.1,PV _ hy.2.1,YR _ hy.2.2,aVa (by simp [val]),aU8 (tN pJ)]) (by
  unfold X5;rw[aVa (vZ _)])]
 rfl
end Go.Proofs.YtbbpilohihldiaaGreatDoor
namespace Go.Proofs.YtbbpilohihldiaaGreatDoor
open Vc
set_option maxRecDepth 1000000
end Go.Proofs.YtbbpilohihldiaaGreatDoor
namespace Go.Proofs.YtbbpilohihldiaaGreatDoor
open Vc
def CY {x:pG}(h:tG x=true):x.length≤4000:=by
  unfold tG at h;simp only[aVg,aVf] at h;omega
structure a9W (x:t6):Prop where
  id:x.1.length≤4000
  src:x.2.1.length≤4000
  tgt:x.2.2.1.length≤4000
  com:x.2.2.2.1.length≤20∧∀y∈x.2.2.2.1,y.length≤4000
  flg:x.2.2.2.2.1.length≤20∧∀y∈x.2.2.2.2.1,y.length≤4000
  fld:x.2.2.2.2.2.2.1.length≤20∧∀y∈x.2.2.2.2.2.2.1,y.1.length≤4000∧y.2.1.length≤4000
def a9X {x:t6}(h:wZ x=true):a9W x:=by
  have h':=h;unfold wZ at h';simp only[aVg] at h';obtain⟨⟨⟨⟨⟨⟨⟨⟨hne,h200⟩,hid⟩,hsrc⟩,htgt⟩,hcom⟩,hflg⟩,_⟩,hfld⟩:=h';obtain⟨c1,c2⟩:=KL hcom;obtain⟨f1,f2,f3⟩:=TG hflg;obtain⟨g1,g2,g3⟩:=IS hfld;exact⟨CY hid,CY hsrc,CY htgt,⟨c1,fun y hy=>CY (c2 y hy)⟩,⟨f1,fun y hy=>CY (aJk (f2 y hy))⟩,⟨g1,fun y hy=>⟨CY (g2 y hy).2.1,CY (g2 y hy).2.2⟩⟩⟩
def a9Y {l:pH}(h:l.length≤20∧∀y∈l,y.length≤4000):GX l:=⟨pJ,fun y hy=>by have:=h.2 y hy;omega⟩
def aJy {l:List s7}(h:l.length≤20∧∀y∈l,y.1.length≤4000∧y.2.1.length≤4000):KH l:=⟨pJ,fun y hy=>by have:=h.2 y hy;omega⟩
def a9W.few {x:t6}(h:a9W x):MN x:=⟨by have:=h.id;omega,by have:=h.src;omega,by have:=h.tgt;omega,a9Y h.com,a9Y h.flg,aJy h.fld⟩
def aJz {c:C4}(h:yP c=true):YI c:=by
  obtain⟨h1,h2,h3,h4,h5,_⟩:=TH h;obtain⟨c1,c2⟩:=KL h2;obtain⟨g1,g2,g3⟩:=IS h3;refine⟨?_,a9Y ⟨c1,fun y hy=>CY (c2 y hy)⟩,aJy ⟨g1,fun y hy=>⟨CY (g2 y hy).2.1,CY (g2 y hy).2.2⟩⟩,h4,fun x hx=>(a9X (h5 x hx)).few⟩;unfold uM at h1;simp only[aVg,aVf] at h1;omega
def PW {s:pG}(h:s.length≤4000):(q3 s).length≤24002:=by
  have:=aIK (n:=3) (.inr rfl) s;unfold q3;simp only[aVc,aVT];omega
def aJA {l:pH}(h:l.length≤20∧∀y∈l,y.length≤4000):(C3 l).length≤480260:=by
  have:=PR (l:=l) (h:=ES) (B:=24013) fun x hx=>by
    have:=PW (h.2 x hx);unfold ES;simp only[aVc,aVd,aVv];omega
  unfold C3;omega
def aJB {l:List s7}(h:l.length≤20∧∀y∈l,y.1.length≤4000∧y.2.1.length≤4000):(zG l).length≤960280:=by
  have:=PR (l:=l) (h:=DS) (B:=48014) fun x hx=>by
    have h1:=PW (h.2 x hx).1;have h2:=PW (h.2 x hx).2;unfold DS;simp only[aVc,aVd,aVv];omega
  unfold zG;omega
def aRY {l:pH}(h:l.length≤20∧∀y∈l,y.length≤4000):(yQ l).length≤80160:=by
  have:=PR (l:=l) (h:=CX) (B:=4008) fun x hx=>by
    have:=h.2 x hx;unfold CX;simp only[aVc,aVd,aVv];omega
  unfold yQ;omega
def aJC {p s:pG}(hp:p.length≤10) (h:s.length≤4000):(yR p s).length≤24012:=by
  have:=PW h;unfold yR;split
  .simp
  .rw[aVc];omega
def aRZ {x:t6}(h:wZ x=true):(yS x).length≤1600000:=by
  have hs:=a9X h;obtain⟨r0,r4⟩:=a9O h;have a1:=PW hs.id;have a2:=aJA hs.com;have a3:=aJC (p:=MQ) pK hs.src;have a4:=aJC (p:=MR) pK hs.tgt;have a5:=aI8 r0 r4;have a6:=aRY hs.flg;have a7:=aJB hs.fld;unfold yS MS FX FW IR;simp only[aVc,aVd,aVv];omega
def aR0 {c:C4}(h:yP c=true):(DT c).length≤1500000:=by
  obtain⟨h1,h2,h3,_⟩:=TH h;obtain⟨c1,c2⟩:=KL h2;obtain⟨g1,g2,g3⟩:=IS h3;have a1:=PW (CY (aJl h1));have a2:=aJA ⟨c1,fun y hy=>CY (c2 y hy)⟩;have a3:=aJB ⟨g1,fun y hy=>⟨CY (g2 y hy).2.1,CY (g2 y hy).2.2⟩⟩;unfold DT;simp only[aVc,aVd,aVv];omega
def aJD {c:C4}(h:yP c=true):M1 c c=some ()∧((((decide (c.1=c.1))&&(val (xH c.2.1 c.2.1)))&&(val (B5 c.2.2.1 c.2.2.1)))&&(val (FI c.2.2.2.1 c.2.2.2.1)))=true:=by
  obtain⟨h1,h2,h3,h4,h5,_⟩:=TH h;have f2:r8 c.2.1:=by have:=(KL h2).1;unfold r8;omega
  have f3:r8 c.2.2.1:=by have:=(IS h3).1;unfold r8;omega
  have f4:r8 c.2.2.2.1:=by unfold r8;omega
  have f5: ∀y∈c.2.2.2.1,MM y:=fun y hy=>by
    have hs:=a9X (h5 y hy);exact⟨by have:=hs.com.1;unfold r8;omega,by have:=hs.flg.1;unfold r8;omega,by have:=hs.fld.1;unfold r8;omega⟩
  constructor
  · unfold M1 RY
    rw[PV _ f2,YR _ f3,aJx _ f4 f5];rw[aU8 vS,aU8 vS,aU7,aU8 vS]
  · rw[PV _ f2,YR _ f3,aJx _ f4 f5]
    simp [val]
def aR1 {s:pG}(hsm:s.length≤4000000000): ∃v,zD s=some v∧(v.2.2.2.2.2=0→yP (v.1,(v.2.1,(v.2.2.1,(v.2.2.2.1,()))))=true)∧(v.2.2.2.2.2≠0→v.1=[]∧v.2.1=[]∧v.2.2.1=[]∧v.2.2.2.1=[]):=by
  obtain⟨v,h1,h2,_⟩:=a9U hsm;obtain⟨w,g1,g2,g3,_⟩:=aJw hsm;unfold OY at h2;rw[g1,aU7] at h2;cases h2;exact⟨_,h1,g2,fun h=>⟨(g3 h).1,(g3 h).2.1,(g3 h).2.2.1,(g3 h).2.2.2.1⟩⟩
def TK:Nat->pH->pT
 |_,[]=>[]
 |a,x::ps=>(a+x.length)::TK (a+x.length) ps
def aJE {s:pG}{l:pT}{j:Nat}(h:j<l.length):(DQ s l)[j]? =some (pc s l j):=by
 unfold DQ;rw[List.getElem?_map,List.getElem?_range h];rfl
def a9Z {s:pG}{a b:Nat}(h:a<=b):s.take a++qV s (a:Int) (b:Int)=s.take b:=by
 unfold qV;rw[aVN,aVN];have e:b=a+(b-a):=by omega
 conv=>rhs;rw[e,List.take_add]
def aJF {s:pG}{l:pT}(hs:l.Pairwise (·<=·)): ∀(k:Nat),k<l.length->((List.range (k+1)).map (pc s l)).flatten=s.take (l.getD k 0)
 |0,h=>by
  show (qV s ((0:Nat):Int) _)++[]=_;rw[List.append_nil];have:=a9Z (s:=s) (aVX (l.getD 0 0));rw[List.take_zero,List.nil_append] at this;exact this
 |k+1,h=>by
  rw[List.range_succ,List.map_append,List.flatten_append,aJF hs k pJ];show _++((pc s l (k+1))++[])=_;rw[List.append_nil];exact a9Z (aIX hs pJ h)
def aR2 {s:pG}{l:pT}(hne:l≠[]) (hs:l.Pairwise (·<=·)) (hle: ∀x∈l,x<=s.length):C2 (pc s l 0) ((DQ s l).drop 1) (qV s (IQ l:Nat) (s.length:Int))=s:=by
 have hpos:0<l.length:=aWB.2 hne;have h1:=aJF (s:=s) hs (l.length-1) pJ;rw[show l.length-1+1=l.length by omega] at h1;have h2:(DQ s l).flatten=pc s l 0++((DQ s l).drop 1).flatten:=by
  have e:DQ s l=pc s l 0::(DQ s l).drop 1:=by
   cases hp:DQ s l with
   |nil=>
    have:=aVL List.length hp;simp at this;exact absurd this hne
   |cons x r=>
    have:=aJE (s:=s) hpos;rw[hp] at this;rw[aVe this];rfl
  conv=>lhs;rw[e,aWN]
 have h3:=a9Z (s:=s) (YL hle (show l.length-1<l.length by omega));rw[List.take_length] at h3;unfold C2;rw[<-aVi,<-h2];show ((List.range l.length).map (pc s l)).flatten++_=s;rw[h1];exact h3
end Go.Proofs.YtbbpilohihldiaaGreatDoor
