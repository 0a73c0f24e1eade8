/- TreeWhole returns true for every body (the pieces of a body together are the body; a printed catalog falls into its pieces): the tied card of the statement, over the row's statement. No condition. -/
/- Packed by a program of mine (wip/tools/pack.py): the same texts with short names and few blanks. -/
import Derived.Deep.CondSized
import Derived.Deep.DeepHandedRow
import Derived.Deep.DeepWitnessRowRef
import Derived.Lib.Index
import Derived.Lib.IndexAny
import Derived.Lib.LaidIn
import Derived.Lib.LaidTab
import Derived.Lib.LaidU8T
import Derived.OpenShut
import Derived.ProofKit
import Derived.SevenTiedAt
import Derived.SizedLaws
import Derived.Test.YtbbpilohihldiaaGreatDoorCards
import Derived.Test.YtbbpilohihldiaaGreatDoorRows
import Derived.Test.YtbbpilohihldiaaGreatDoorTie
import Derived.WalkKit
import Derived.Test.YtbbpilohihldiaaGreatDoorL03
set_option linter.unusedVariables false
set_option linter.unusedSimpArgs false
set_option linter.unusedSectionVars false
set_option maxRecDepth 100000
set_option maxHeartbeats 4000000
namespace Go.Proofs.YtbbpilohihldiaaGreatDoor
open Vc
theorem sib (l:List UInt8) (b:UInt8):sW l (b.toNat:Int)=Lib.indexByte l b:=by
 unfold sW;rw[aQ2];congr 1;simp
def sA (d:UInt8):List UInt8->Option Nat
 |[]=>none
 |[b]=>if b=d then some 0 else none
 |b::c::t=>if b=d then some 0 else if b=92 then(sA d t).map (· +2) else(sA d (c::t)).map (· +1)
def DI:Option Nat->Int
 |some k=>k
 |none=> -1
theorem UY {d:UInt8}:sA d []=none:=by unfold sA;rfl
theorem UZ {d b:UInt8}{t:List UInt8}(h:b=d):sA d (b::t)=some 0:=by
 subst h;cases t<;>(unfold sA;simp)
theorem V0 {d b:UInt8}{t:List UInt8}(h:b≠d) (hb:b=92):sA d (b::t)=(sA d (t.drop 1)).map (· +2):=by
 cases t with
 |nil=>unfold sA;rw[aQl h];simp [sA]
 |cons c t=>rw[sA,aQl h,aQj hb];rfl
theorem V1 {d b:UInt8}{t:List UInt8}(h:b≠d) (hb:b≠92):sA d (b::t)=(sA d t).map (· +1):=by
 cases t with
 |nil=>unfold sA;rw[aQl h];simp [sA]
 |cons c t=>rw[sA,aQl h,aQl hb]
theorem PU {d:UInt8}: ∀(n:Nat) (l:List UInt8) (k:Nat),l.length<=n->sA d l=some k->k<l.length
 |_,[],_,_,h=>by rw[UY] at h;cases h
 |0,_::_,_,hn,_=>by simp at hn
 |n+1,b::t,k,hn,h=>by
  simp only[aQp] at hn⊢;by_cases h1:b=d
  ·rw[UZ h1] at h;cases h;omega
  ·by_cases h2:b=92
   ·rw[V0 h1 h2] at h;cases h3:sA d (t.drop 1) with
    |none=>rw[h3] at h;cases h
    |some j=>
     rw[h3] at h;obtain rfl:j+2=k:=aQo h;have:=PU n (t.drop 1) j (by rw[aQw];omega) h3;rw[aQw] at this;omega
   ·rw[V1 h1 h2] at h;cases h3:sA d t with
    |none=>rw[h3] at h;cases h
    |some j=>
     rw[h3] at h;obtain rfl:j+1=k:=aQo h;have:=PU n t j (by omega) h3;omega
theorem V2 {a b:UInt8}:((a.toNat:Int)=(b.toNat:Int))↔a=b:=by
 rw[Int.ofNat_inj];exact UInt8.toNat_inj
theorem a6s (n:Int) (hn:n≠4) (s:List UInt8) (d:UInt8) (hs:pQ s): ∀(k i:Nat),s.length+1<=i+k->pU (LI n s (d.toNat:Int)) (i:Int)=some (tQ (fun k=> .inr ((i+k:Nat):Int)) (.inl ()) (sA d (s.drop i)))
 |0,i,h=>by
  rw[List.drop_eq_nil_of_le (by omega),UY,wO (r:= .inl ()) (by unfold LI;rw[aQl (by simp;omega)])];rfl
 |k+1,i,h=>by
  by_cases hlt:i<s.length
  ·have hs':=hs;unfold pQ at hs';have hstep:LI n s (d.toNat:Int) (i:Int)=if s[i]=d then some (.inr (.inr (i:Int))) else if s[i]=92 then some (.inl ((i+2:Nat):Int)) else some (.inl ((i+1:Nat):Int)):=by
    unfold LI;rw[aQj (tH hlt),aQj (rT hlt),xV hlt];by_cases h1:s[i]=d
    ·rw[aQj (by simp [h1]),aQj h1]
    ·rw[aQl (by simpa[V2] using h1),aQl h1,aQj (fun _=>rT hlt)];have h92:((92:Int))=((92:UInt8).toNat:Int):=rfl;by_cases h2:s[i]=92
     ·rw[aQj (by rw[h2];simp [hn]),aQj h2,aQj (sD (by omega)),aQj (by unfold pB;omega)];congr 3
     ·rw[aQl (fun h=>by
       simp only[aQr,aQq] at h;exact h2 (V2.1 (h.2.trans h92))),aQl h2,aQj (sD (by omega))]
      rfl
   rw[xG,hstep,aQL hlt];by_cases h1:s[i]=d
   ·rw[aQj h1,UZ h1];rfl
   ·rw[aQl h1];by_cases h2:s[i]=92
    ·rw[aQj h2,V0 h1 h2];show pU _ ((i+2:Nat):Int)=_;rw[a6s n hn s d hs k (i+2) (by omega),aQ9];cases sA d (s.drop (i+2)) with
     |none=>rfl
     |some j=>
      show some (Sum.inr ((i+2+j:Nat):Int))=some (Sum.inr ((i+(j+2):Nat):Int));rw[show i+2+j=i+(j+2) by omega]
    ·rw[aQl h2,V1 h1 h2];show pU _ ((i+1:Nat):Int)=_;rw[a6s n hn s d hs k (i+1) (by omega)];cases sA d (s.drop (i+1)) with
     |none=>rfl
     |some j=>
      show some (Sum.inr ((i+1+j:Nat):Int))=some (Sum.inr ((i+(j+1):Nat):Int));rw[show i+1+j=i+(j+1) by omega]
  ·rw[List.drop_eq_nil_of_le (by omega),UY,wO (r:= .inl ()) (by unfold LI;rw[aQl (by simp;omega)])];rfl
theorem aEm {n:Int}(h1:1<=n) (h3:n<=3) (s:List UInt8) (d:UInt8) (hs:pQ s):LJ n s (d.toNat:Int)=some (DI (sA d s)):=by
 unfold LJ;have h:=a6s n (by omega) s d hs (s.length+1) 0 (by omega);rw[aQl (by simp;omega),show ((0:Int))=((0:Nat):Int) from rfl,h,aRA];cases sA d s with
 |none=>rfl
 |some k=>
  show some (((0+k:Nat)):Int)=some (k:Int);rw[aQV]
theorem aLd (n:Int) (s:List UInt8) (c:Int):JC n s c=LJ n s c:=by
 unfold JC LJ;rfl
def AF (c base:Int):Int:=
 let n:=if 48<=c/\c<=57 then c-48 else if 97<=c/\c<=102 then c-87 else if 65<=c/\c<=70 then c-55 else-1
 if base<=n then-1 else n
theorem aLe {c:Int}(base:Int) (h0:0<=c) (h1:c<=255):TY c base=some (AF c base):=by
 unfold TY AF;by_cases a:48<=c/\c<=57
 ·rw[aQj (by simpa using a),aQj a,show IntKind.i64.wrap (IntKind.u8.wrap (c-48))=c-48 by rw[aRB,aRk];omega];simp only[qZ,aQi,aQq];split<;>rfl
 ·rw[aQl (by simpa using a),aQl a];by_cases b:97<=c/\c<=102
  ·rw[aQj (by simpa using b),aQj b,show IntKind.i64.wrap (IntKind.u8.wrap (c-97))=c-97 by rw[aRB,aRk];omega,aQj (by unfold pB;omega),show c-97+10=c-87 by omega];simp only[qZ,aQi,aQq];split<;>rfl
  ·rw[aQl (by simpa using b),aQl b];by_cases d:65<=c/\c<=70
   ·rw[aQj (by simpa using d),aQj d,show IntKind.i64.wrap (IntKind.u8.wrap (c-65))=c-65 by rw[aRB,aRk];omega,aQj (by unfold pB;omega),show c-65+10=c-55 by omega];simp only[qZ,aQi,aQq];split<;>rfl
   ·rw[aQl (by simpa using d),aQl d];simp only[qZ,aQi,aQq];split<;>rfl
def V3:List UInt8:=[48,49,50,51,52,53,54,55,56,57,97,98,99,100,101,102]
theorem aLf: ∀n:Fin 256,Lib.indexByte V3 (UInt8.ofNat n)=if 48<=(n.val:Int)/\(n.val:Int)<=57 then(n.val:Int)-48 else if 97<=(n.val:Int)/\(n.val:Int)<=102 then(n.val:Int)-87 else-1:=by decide
theorem aLg (b:UInt8):Lib.indexByte V3 b=if 48<=(b.toNat:Int)/\(b.toNat:Int)<=57 then(b.toNat:Int)-48 else if 97<=(b.toNat:Int)/\(b.toNat:Int)<=102 then(b.toNat:Int)-87 else-1:=by
 have:=aLf ⟨b.toNat,b.toNat_lt⟩;simpa using this
def y5 (base:Int):Int->List UInt8->Option Int
 |acc,[]=>some acc
 |acc,b::t=>if AF b.toNat base<0 then none else y5 base (base*acc+AF b.toNat base) t
theorem aEn {c base:Int}(hb:0<base): -1<=AF c base/\AF c base<base:=by
 unfold AF;dsimp only
 repeat' split
 all_goals omega
theorem aEo (s:List UInt8) (base:Int) (hb:0<base) (hb16:base<=16) (hs:s.length<=8): ∀(k j:Nat) (acc:Int),j+k=s.length->0<=acc->acc<16^j->
  pU (OW s base) (acc,(j:Int))=some (match y5 base acc (s.drop j) with|some n=> .inl n|none=> .inr (-1))
 |0,j,acc,hj,_,_=>by
  have:j=s.length:=by omega
  subst this;rw[aQ3,wO (r:= .inl acc) (by unfold OW;simp)];rfl
 |k+1,j,acc,hj,h0,h1=>by
  have hlt:j<s.length:=by omega
  have hc:=s[j].toNat_lt;have hd:=aEn (c:=(s[j].toNat:Int)) hb;have hp:(16:Int) ^j<=16^8:=by
   have:(16:Nat) ^j<=16^8:=Nat.pow_le_pow_right (by decide) (by omega)
   exact_mod_cast this
  have h8:(16:Int) ^8=4294967296:=by decide
  have hm:base*acc<=16*acc:=Int.mul_le_mul_of_nonneg_right hb16 h0;have hm0:0<=base*acc:=Int.mul_nonneg (by omega) h0;have hstep:OW s base (acc,(j:Int))=if AF s[j].toNat base<0 then some (.inr (.inr (-1))) else some (.inl (base*acc+AF s[j].toNat base,((j+1:Nat):Int))):=by
   unfold OW;dsimp only;rw[aQj (tH hlt),aQj (rT hlt),xV hlt,aLe base (by omega) (by omega)];simp only[aQi,aQq];by_cases hn:AF s[j].toNat base<0
   ·rw[aQj hn,aQj hn]
   ·rw[aQl hn,aQl hn,aQj (by unfold pB;omega),aQj (by unfold pB;omega),aQj (sD (by omega))];rfl
  rw[xG,hstep,aQL hlt,y5];by_cases hn:AF s[j].toNat base<0
  ·rw[aQj hn,aQj hn];rfl
  ·rw[aQl hn,aQl hn];show pU _ (_,((j+1:Nat):Int))=_;exact aEo s base hb hb16 hs k (j+1) _ (by omega) (by omega) (by rw[Int.pow_succ];omega)
theorem aEp (s:List UInt8) (base:Int) (hb:0<base) (hb16:base<=16) (hs:s.length<=8):JD s base=some (if s=[] then-1 else(y5 base 0 s).getD (-1)):=by
 unfold JD;rw[show ((0:Int),(0:Int))=((0:Int),((0:Nat):Int)) from rfl,aEo s base hb hb16 hs s.length 0 0 (by omega) (by omega) (by decide),aRA];cases h:y5 base 0 s with
 |none=>
  have:s≠[]:=by intro hn;subst hn;simp [y5] at h
  rw[aQl this];rfl
 |some n=>
  show (if decide (s=[])=true then _ else _)=_;by_cases he:s=[]
  ·rw[aQj (by simpa using he),aQj he]
  ·rw[aQl (by simpa using he),aQl he];rfl
theorem aEq (s:List UInt8) (base:Int) (hb:0<base) (hb16:base<=16) (hs:s.length<=8): ∀(k j:Nat) (acc:Int),j+k=s.length->0<=acc->acc<16^j->
  pU (LK s base) (acc,(j:Int))=some (match y5 base acc (s.drop j) with|some n=> .inl n|none=> .inr (0,false))
 |0,j,acc,hj,_,_=>by
  have:j=s.length:=by omega
  subst this;rw[aQ3,wO (r:= .inl acc) (by unfold LK;simp)];rfl
 |k+1,j,acc,hj,h0,h1=>by
  have hlt:j<s.length:=by omega
  have hc:=s[j].toNat_lt;have hd:=aEn (c:=(s[j].toNat:Int)) hb;have hp:(16:Int) ^j<=16^8:=by
   have:(16:Nat) ^j<=16^8:=Nat.pow_le_pow_right (by decide) (by omega)
   exact_mod_cast this
  have h8:(16:Int) ^8=4294967296:=by decide
  have hm:acc*base<=acc*16:=Int.mul_le_mul_of_nonneg_left hb16 h0;have hm0:0<=acc*base:=Int.mul_nonneg h0 (by omega);have hcm:acc*base=base*acc:=Int.mul_comm _ _;have hstep:LK s base (acc,(j:Int))=if AF s[j].toNat base<0 then some (.inr (.inr (0,false))) else some (.inl (base*acc+AF s[j].toNat base,((j+1:Nat):Int))):=by
   unfold LK;dsimp only;rw[aQj (tH hlt),aQj (rT hlt),aQj (rT hlt),aQj (fun _=>rT hlt),xV hlt,aQj (rT hlt),sib];have hidx:=aLg s[j];have hval:(if ((decide ((65:Int)<=(s[j].toNat:Int)))&&(decide ((s[j].toNat:Int)<=(70:Int))))=true then(if pB ((IntKind.wrap .i64 (IntKind.wrap .u8 ((s[j].toNat:Int)- (65:Int))))+(10:Int)) then some (((IntKind.wrap .i64 (IntKind.wrap .u8 ((s[j].toNat:Int)- (65:Int))))+(10:Int))) else none) else some (Lib.indexByte V3 s[j]))=some (if 48<=(s[j].toNat:Int)/\(s[j].toNat:Int)<=57 then(s[j].toNat:Int)-48 else if 97<=(s[j].toNat:Int)/\(s[j].toNat:Int)<=102 then(s[j].toNat:Int)-87 else if 65<=(s[j].toNat:Int)/\(s[j].toNat:Int)<=70 then(s[j].toNat:Int)-55 else-1):=by
    by_cases c:65<=(s[j].toNat:Int)/\(s[j].toNat:Int)<=70
    ·rw[aQj (by simpa using c),show IntKind.i64.wrap (IntKind.u8.wrap ((s[j].toNat:Int)-65))=(s[j].toNat:Int)-65 by rw[aRB,aRk];omega,aQj (by unfold pB;omega),aQl (by omega),aQl (by omega),aQj c];congr 1;omega
    ·rw[aQl (by simpa using c),hidx,aQl c]
   unfold qZ;rw[show ([48,49,50,51,52,53,54,55,56,57,97,98,99,100,101,102]:List UInt8)=V3 from rfl,hval];simp only[aQi];unfold AF;dsimp only;generalize (if 48<=(s[j].toNat:Int)/\(s[j].toNat:Int)<=57 then(s[j].toNat:Int)-48 else if 97<=(s[j].toNat:Int)/\(s[j].toNat:Int)<=102 then(s[j].toNat:Int)-87 else if 65<=(s[j].toNat:Int)/\(s[j].toNat:Int)<=70 then(s[j].toNat:Int)-55 else-1)=D;by_cases hn:D<0\/base<=D
   ·rw[aQj (by simpa using hn)];by_cases hbD:base<=D
    ·rw[aQj hbD,aQj (by decide)]
    ·rw[aQl hbD,aQj (by omega)]
   ·rw[aQl (by simpa using hn)];have hbD: ¬base<=D:=fun h=>hn (.inr h);have hD0: ¬D<0:=fun h=>hn (.inl h);rw[aQl hbD,aQl hD0,aQj (by unfold pB;omega),aQj (by unfold pB;omega),aQj (sD (by omega)),hcm];rfl
  rw[xG,hstep,aQL hlt,y5];by_cases hn:AF s[j].toNat base<0
  ·rw[aQj hn,aQj hn];rfl
  ·rw[aQl hn,aQl hn];show pU _ (_,((j+1:Nat):Int))=_;exact aEq s base hb hb16 hs k (j+1) _ (by omega) (by omega) (by rw[Int.pow_succ];omega)
theorem aEr (s:List UInt8) (base:Int) (hb:0<base) (hb16:base<=16) (hs:s.length<=8):ED s base=some (match y5 base 0 s with|some n=>(n,!decide (s=[])) |none=>(0,false)):=by
 unfold ED;rw[show ((0:Int),(0:Int))=((0:Int),((0:Nat):Int)) from rfl,aEq s base hb hb16 hs s.length 0 0 (by omega) (by omega) (by decide),aRA];cases h:y5 base 0 s with
 |none=>rfl
 |some n=>rfl
theorem PV {base:Int}(hb:0<base): ∀{s:List UInt8}{acc n:Int},0<=acc->y5 base acc s=some n->0<=n
 |[],acc,n,h0,h=>by cases h;exact h0
 |b::t,acc,n,h0,h=>by
  rw[y5] at h;split at h
  ·cases h
  ·exact PV hb (by have:=Int.mul_nonneg (Int.le_of_lt hb) h0;omega) h
theorem aLh (b:UInt8) (l:List UInt8) (hl:pQ l):D8 (b.toNat:Int) l=some (l.contains b):=by
 unfold pQ at hl;have h:=CG (f:=TU (b.toNat:Int) l) (l:=l) (fun x=>decide (x=b)) (fun _=>true) (fun i h=>by
  unfold TU;rw[aQj (tH h),aQj (rT h),xV h,aQj (sD (by omega))];simp only[V2,aQq]) (by
  unfold TU;rw[aQl (vN _)])
 unfold D8;rw[h,EI,a6f];congr 1;rw[aRr];simp
def JN:List UInt8:=[92,34,61,58,35,33,123,125,32]
def EL (l:List UInt8) (k:Nat) (ok:Int->Bool) (f:Int->List UInt8):List UInt8×Nat:=
 match y5 16 0 l with
 |some n=>if ok n=true then(f n,k) else([],0)
 |none=>([],0)
def wG (l:List UInt8):List UInt8×Nat:=
 match l with
 |_::c::t=>
  if c=110 then([10],2) else if c=114 then([13],2) else if c=116 then([9],2)
  else if JN.contains c=true then([c],2)
  else if c=120/\2<=t.length then EL (t.take 2) 4 (fun n=>decide (n<=127)) (fun n=>rW [n])
  else if c=117/\4<=t.length then EL (t.take 4) 6 vO Lib.encodeRune
  else([],0)
 |_=>([],0)
theorem uC {a:UInt8}{n:Int}(b:UInt8) (hb:n=(b.toNat:Int)):decide ((a.toNat:Int)=n)=decide (a=b):=by
 rw[hb];simp only[V2]
theorem aEs (a c:UInt8) (t:List UInt8):pH (a::c::t) 2 4=t.take 2:=rfl
theorem aEt (a c:UInt8) (t:List UInt8):pH (a::c::t) 2 6=t.take 4:=rfl
theorem aEu (a c:UInt8) (t:List UInt8):pH (a::c::t) 1 2=[c]:=rfl
theorem aLi (a:UInt8) (t:List UInt8):PA (a::t)=some ((wG (a::t)).1,((wG (a::t)).2:Int)):=by
 cases t with
 |nil=>unfold PA;rw[aQj (by simp)];rfl
 |cons c t=>
  have hy:pL (a::c::t) (1:Int)=(c.toNat:Int):=xV (i:=1) (by simp);unfold PA;rw[aQl (by simp;omega),aQj (⟨by decide,by simp;omega⟩),hy,uC (n:=110) 110 rfl,uC (n:=114) 114 rfl,uC (n:=116) 116 rfl,uC (n:=120) 120 rfl,uC (n:=117) 117 rfl,aLh c _ (by unfold pQ;decide),aEs,aEt,aEu];show _=some ((if c=110 then(([10],2):List UInt8×Nat) else _).1,((if c=110 then(([10],2):List UInt8×Nat) else _).2:Int));by_cases h1:c=110
  ·rw[aQj (by simpa using h1),aQj h1];rfl
  rw[aQl (by simpa using h1),aQl h1];by_cases h2:c=114
  ·rw[aQj (by simpa using h2),aQj h2];rfl
  rw[aQl (by simpa using h2),aQl h2];by_cases h3:c=116
  ·rw[aQj (by simpa using h3),aQj h3];rfl
  rw[aQl (by simpa using h3),aQl h3,aQi];show (if JN.contains c=true then _ else _)=_;by_cases h4:JN.contains c=true
  ·rw[aQj h4,aQj h4,aQj ⟨by decide,by decide,by simp;omega⟩];rfl
  rw[aQl h4,aQl h4];have hlen:((a::c::t).length:Int)=(t.length:Int)+2:=by simp;omega
  rw[hlen];by_cases h5:c=120/\2<=t.length
  ·rw[aQj (by simp [h5.1];omega),aQj h5,aQj ⟨by decide,by decide,by omega⟩,aEp _ 16 (by decide) (by decide) (by rw[aQM];omega),aQl (by intro h;have:=aQW List.length h;rw[aQM,aQG] at this;omega),aQi];unfold EL;cases hn:y5 16 0 (t.take 2) with
   |none=>rfl
   |some n=>
    have h0:=PV (by decide) (aQ8 0) hn;simp only[aRQ];by_cases h7:n<=127
    ·rw[aQj (by simp;omega),aQj (by simpa using h7),aRB,show n%256=n by omega];rfl
    ·rw[aQl (by simp;omega),aQl (by simpa using h7)];rfl
  rw[aQl (by simp only[aQr,aQq];intro h;exact h5 ⟨h.1,by omega⟩),aQl h5];by_cases h6:c=117/\4<=t.length
  ·rw[aQj (by simp [h6.1];omega),aQj h6,aQj ⟨by decide,by decide,by omega⟩,aEp _ 16 (by decide) (by decide) (by rw[aQM];omega),aQl (by intro h;have:=aQW List.length h;rw[aQM,aQG] at this;omega),aQi];unfold EL;cases hn:y5 16 0 (t.take 4) with
   |none=>rfl
   |some n=>
    have h0:=PV (by decide) (aQ8 0) hn;simp only[aRQ];show (if (decide (0<=n)&&vO n)=true then _ else _)=_;by_cases h7:vO n=true
    ·rw[aQj (by simp [h7,h0]),aQj h7,a6i ((G4 n).1 h7)];rfl
    ·rw[aQl (by simp [h7]),aQl h7];rfl
  rw[aQl (by simp only[aQr,aQq];intro h;exact h6 ⟨h.1,by omega⟩),aQl h6];rfl
theorem aLj (a:UInt8) (t:List UInt8):FY (a::t)=some ((wG (a::t)).1,((wG (a::t)).2:Int)):=by
 cases t with
 |nil=>unfold FY;rw[aQj (by simp)];rfl
 |cons c t=>
  have hy:pL (a::c::t) (1:Int)=(c.toNat:Int):=xV (i:=1) (by simp);have hlen:((a::c::t).length:Int)=(t.length:Int)+2:=by simp;omega
  unfold FY;rw[aQl (by simp;omega),aQj (⟨by decide,by simp;omega⟩),hy,uC (n:=110) 110 rfl,uC (n:=114) 114 rfl,uC (n:=116) 116 rfl,uC (n:=120) 120 rfl,uC (n:=117) 117 rfl,sib,aEs,aEt,aEu,hlen,<-Lib.contains_iff_indexByte];show _=some ((if c=110 then(([10],2):List UInt8×Nat) else _).1,((if c=110 then(([10],2):List UInt8×Nat) else _).2:Int));by_cases h1:c=110
  ·rw[aQj (by simpa using h1),aQj h1];rfl
  rw[aQl (by simpa using h1),aQl h1];by_cases h2:c=114
  ·rw[aQj (by simpa using h2),aQj h2];rfl
  rw[aQl (by simpa using h2),aQl h2];by_cases h3:c=116
  ·rw[aQj (by simpa using h3),aQj h3];rfl
  rw[aQl (by simpa using h3),aQl h3];by_cases hx:c=120
  ·subst hx;rw[aQj (show decide ((120:UInt8)=120)=true from rfl),aQl (show¬JN.contains 120=true by decide)];by_cases h5:2<=t.length
   ·rw[aQj (by simp;omega),aQj ⟨by decide,by decide,by omega⟩,aQj (show _/\_ from⟨rfl,h5⟩),aEr _ 16 (by decide) (by decide) (by rw[aQM];omega),aQi];unfold EL;cases hn:y5 16 0 (t.take 2) with
    |none=>rfl
    |some n=>
     have h0:=PV (by decide) (aQ8 0) hn;have hne:t.take 2≠[]:=by intro h;have:=aQW List.length h;rw[aQM,aQG] at this;omega
     simp only[hne,decide_false,Bool.not_false,Bool.true_and];by_cases h7:n<=127
     ·rw[aQj (by simpa using h7),aQj (by simpa using h7),aRB,show n%256=n by omega];rfl
     ·rw[aQl (by simpa using h7),aQl (by simpa using h7)];rfl
   ·rw[aQl (by simp;omega),aQl (fun h=>h5 h.2),aQl (show¬((120:UInt8)=117/\4<=t.length) from fun h=>by cases h.1)];rfl
  rw[aQl (by simpa using hx)];by_cases hu:c=117
  ·subst hu;rw[aQj (show decide ((117:UInt8)=117)=true from rfl),aQl (show¬JN.contains 117=true by decide),aQl (show¬((117:UInt8)=120/\2<=t.length) from fun h=>by cases h.1)];by_cases h5:4<=t.length
   ·rw[aQj (by simp;omega),aQj ⟨by decide,by decide,by omega⟩,aQj (show _/\_ from⟨rfl,h5⟩),aEr _ 16 (by decide) (by decide) (by rw[aQM];omega),aQi];unfold EL;cases hn:y5 16 0 (t.take 4) with
    |none=>rfl
    |some n=>
     have h0:=PV (by decide) (aQ8 0) hn;have hne:t.take 4≠[]:=by intro h;have:=aQW List.length h;rw[aQM,aQG] at this;omega
     simp only[hne,decide_false,Bool.not_false];rw[aQj trivial,aKT,aQi];have hb:vO n=(decide (n<=1114111)&&(decide (n<55296)||decide (57343<n))):=by
      unfold vO;rw[show decide ((0:Int)<=n)=true by simpa using h0,Bool.true_and]
     rw[<-hb];by_cases h7:vO n=true
     ·rw[aQj h7,aQj h7,aQj h7];rfl
     ·rw[aQl h7,aQl h7];rfl
   ·rw[aQl (by simp;omega),aQl (fun h=>h5 h.2)];rfl
  rw[aQl (by simpa using hu)];show (if JN.contains c=true then _ else _)=_;by_cases h4:JN.contains c=true
  ·rw[aQj h4,aQj h4,aQj ⟨by decide,by decide,by omega⟩];rfl
  ·rw[aQl h4,aQl h4,aQl (fun h=>hx h.1),aQl (fun h=>hu h.1)];rfl
def zP (n:Int) (b:UInt8):Bool:=decide (b=10)||((decide (n=2)||decide (n=3))&&decide (b=34))
def sI (n:Int):List UInt8->List UInt8×Nat
 |[]=>([],0)
 |b::t=>if b=92 then wG (b::t) else if zP n b=true then([b],0) else([b],1)
theorem V4 {l:List UInt8}{k:Nat}{ok:Int->Bool}{f:Int->List UInt8}(hf: ∀n,(f n).length<=4):(EL l k ok f).1.length<=4/\((EL l k ok f).2=0\/(EL l k ok f).2=k):=by
 unfold EL;cases y5 16 0 l with
 |none=>exact⟨by simp,.inl rfl⟩
 |some n=>
  dsimp only;split
  ·exact⟨hf n,.inr rfl⟩
  ·exact⟨by simp,.inl rfl⟩
theorem aLk (l:List UInt8):(wG l).1.length<=4/\(wG l).2<=l.length:=by
 unfold wG;split
 ·rename_i a c t;have h1:=V4 (l:=t.take 2) (k:=4) (ok:=fun n=>decide (n<=127)) (f:=fun n=>rW [n]) (fun n=>by simp [rW]);have h2:=V4 (l:=t.take 4) (k:=6) (ok:=vO) (f:=Lib.encodeRune) a6o
  repeat' split
  all_goals first
   |exact⟨by simp,by simp⟩
   |(rename_i h;exact⟨h1.1,by rcases h1.2 with e|e<;>rw[e]<;>simp<;>omega⟩)
   |(rename_i h;exact⟨h2.1,by rcases h2.2 with e|e<;>rw[e]<;>simp<;>omega⟩)
 ·exact⟨by simp,by simp⟩
theorem M7 {n:Int}{b:UInt8}{t:List UInt8}(h:b=92):sI n (b::t)=wG (b::t):=aQj h
theorem JO {n:Int}{b:UInt8}{t:List UInt8}(h:b≠92) (hb:zP n b=true):sI n (b::t)=([b],0):=(aQl h).trans (aQj hb)
theorem M8 {n:Int}{b:UInt8}{t:List UInt8}(h:b≠92) (hb: ¬zP n b=true):sI n (b::t)=([b],1):=(aQl h).trans (aQl hb)
theorem PW (n:Int) (l:List UInt8):(sI n l).1.length<=4/\(sI n l).2<=l.length:=by
 cases l with
 |nil=>exact⟨by simp [sI],by simp [sI]⟩
 |cons b t=>
  by_cases h:b=92
  ·rw[M7 h];exact aLk _
  ·by_cases hb:zP n b=true
   ·rw[JO h hb];exact⟨by simp,by simp⟩
   ·rw[M8 h hb];exact⟨by simp,by simp⟩
def vZ (n:Int):Nat->List UInt8->List UInt8⊕Nat
 |0,_=> .inl []
 |_+1,[]=> .inl []
 |k+1,b::t=>if (sI n (b::t)).2=0 then .inr 0 else match vZ n k ((b::t).drop (sI n (b::t)).2) with
  | .inl r=> .inl ((sI n (b::t)).1++r)
  | .inr e=> .inr ((sI n (b::t)).2+e)
def y6 (n:Int) (s:List UInt8):List UInt8×Int×Int:=match vZ n s.length s with
 | .inl r=>(r,0,0)
 | .inr e=>([],e,3)
theorem V5 (a b:List UInt8):sE (a++b)=sE a++sE b:=by simp [sE]
theorem V6 (a:List UInt8):rW (sE a)=a:=by
 unfold rW sE;rw[List.map_map]
 conv=>rhs;rw[<-List.map_id a]
 congr 1;funext b;simp
theorem aEv {s:List UInt8}{i:Nat}(h:i<s.length):pH s (i:Int) ((i:Int)+1)=[s[i]]:=by
 unfold pH;rw[aQ2,show ((i:Int)+1).toNat-i=1 by omega,aQL h];rfl
theorem aLl {n:Int}(h1:1<=n) (h3:n<=3) {s:List UInt8}(hs:pQ s) {x:List Int}{i:Nat}(hi:i<s.length) (hx:x.length<=10000000000000):
  PG n s (x,(i:Int))=if (sI n (s.drop i)).2=0 then some (.inr (.inr ([],(i:Int),3))) else some (.inl (x++sE (sI n (s.drop i)).1,((i+(sI n (s.drop i)).2:Nat):Int))):=by
 have hs':=hs;unfold pQ at hs';have hn4:decide (n=4)=false:=by simp;omega
 have hp:=PW n (s.drop i);rw[aQw] at hp;unfold PG;dsimp only;rw[aQj (tH hi),aQj (rT hi),aQj (sD (by omega)),aQj ⟨by omega,by omega,by omega⟩,xV hi,aEv hi,EJ,uC (n:=92) 92 rfl,uC (n:=38) 38 rfl,uC (n:=10) 10 rfl,uC (n:=34) 34 rfl,hn4];have hb: ∀v:List UInt8×Nat,v.1.length<=4->v.2<=s.length-i->
   ((if decide ((v.2:Int)=0)=true then(some (.inr (.inr (([]:List UInt8),(i:Int),(3:Int)))):Option ((List Int×Int)⊕(List Int⊕(List UInt8×Int×Int)))) else if x.length+v.1.length<=140737488355328 then if pB ((i:Int)+(v.2:Int)) then some (.inl ((x++sE v.1),((i:Int)+(v.2:Int)))) else none else none)=if v.2=0 then some (.inr (.inr ([],(i:Int),3))) else some (.inl (x++sE v.1,((i+v.2:Nat):Int)))):=fun v hv1 hv2=>by
  by_cases h0:v.2=0
  ·rw[aQj (by simp [h0]),aQj h0]
  ·rw[aQl (by simpa using h0),aQl h0,aQj (by omega),aQj (by unfold pB;omega)];rfl
 rw[aQL hi] at hp⊢;simp only[Bool.not_false,Bool.true_and,aSe,aRC,aSx];by_cases c1:s[i]=92
 ·rw[M7 c1] at hp⊢;rw[aQj (by simpa using c1),aQj ⟨by omega,by omega,aQ8 _⟩,aLi];unfold qZ;simp only[aQi];exact hb _ hp.1 hp.2
 ·rw[aQl (by simpa using c1)];by_cases c2:s[i]=10
  ·rw[aQj (by simpa using c2),aQj (by simpa using c2),JO c1 (show zP n s[i]=true by simp [zP,c2])];unfold qZ;simp only[aQi];exact hb ([s[i]],0) (by simp) (by simp)
  ·rw[aQl (by simpa using c2)];by_cases c3:((decide (n=2)||decide (n=3))&&decide (s[i]=34))=true
   ·rw[aQj c3,aQj c3,JO c1 (show zP n s[i]=true by unfold zP;rw[c3];simp)];unfold qZ;simp only[aQi];exact hb ([s[i]],0) (by simp) (by simp)
   ·have hbad:zP n s[i]=false:=by
     have c3':((decide (n=2)||decide (n=3))&&decide (s[i]=34))=false:=by simpa using c3
     unfold zP;rw[c3'];simp [c2]
    have hbad': ¬zP n s[i]=true:=by simp [hbad]
    rw[M8 c1 hbad'] at hp⊢;rw[aQl c3,aQj (fun h=>by simp at h)];unfold qZ;simp only[aQi];exact hb ([s[i]],1) (by simp) hp.2
theorem aLm {n:Int}(h1:1<=n) (h3:n<=3) (b:UInt8):J3 n (b.toNat:Int)=zP n b:=by
 unfold J3 zP rE;rw[uC (n:=10) 10 rfl,uC (n:=34) 34 rfl];by_cases c1:n=1
 ·subst c1;simp
 ·have h23:n=2\/n=3:=by omega
  rcases h23 with rfl|rfl<;>simp
theorem aLn {x:List Int}{c:Int}(hx:x.length<=10000000000000):J4 (x,()) c=some ():=by
 unfold J4;exact aQj (by simp only[aQ0,aSt];omega)
theorem aLo {x:List Int}{t:List UInt8}(hx:x.length<=10000000000000) (ht:t.length<=4000000000):CH (x,()) t=some ():=by
 unfold CH;exact aQj (by dsimp only;omega)
theorem aLp {n:Int}(h1:1<=n) (h3:n<=3) {s:List UInt8}(hs:pQ s) {x:List Int}{i:Nat}(hi:i<s.length) (hx:x.length<=10000000000000):
  LZ n s ((i:Int),x)=if (sI n (s.drop i)).2=0 then some (.inr (.inr ([],(i:Int),3))) else some (.inl (((i+(sI n (s.drop i)).2:Nat):Int),x++sE (sI n (s.drop i)).1)):=by
 have hs':=hs;unfold pQ at hs';have hp:=PW n (s.drop i);rw[aQw] at hp;unfold LZ;dsimp only;rw[aQj (tH hi),aQj (rT hi),xV hi,EJ,uC (n:=92) 92 rfl,aLm h1 h3];rw[aQL hi] at hp⊢;by_cases c1:s[i]=92
 ·rw[M7 c1] at hp⊢;rw[aQj (by simpa using c1),aQj ⟨by omega,by omega,aQ8 _⟩,aLj];simp only[aQi];by_cases h0:(wG (s[i]::s.drop (i+1))).2=0
  ·rw[aQj (by rw[h0];rfl),aQj h0]
  ·rw[aQl (by rw[aQq];omega),aQl h0,aLo hx (by omega)];simp only[aQi];rw[aQj (by unfold pB;omega)];rfl
 ·rw[aQl (by simpa using c1),aQj (rT hi)];by_cases hb:zP n s[i]=true
  ·rw[aQj hb,JO c1 hb];rfl
  ·rw[aQl hb,M8 c1 hb,aQj (rT hi),aLn hx,aQi];rw[aQj (sD (by omega))];rfl
theorem aEw {n:Int}(h1:1<=n) (h3:n<=3) {s:List UInt8}(hs:pQ s): ∀(k i:Nat) (x:List Int),i<=s.length->s.length-i<=k->x.length+4*(s.length-i)<=5000000000000->
  pU (PG n s) (x,(i:Int))=some (match vZ n k (s.drop i) with| .inl r=> .inl (x++sE r) | .inr e=> .inr ([],((i+e:Nat):Int),3))
 |k,i,x,hi,hk,hx=>by
  by_cases hlt:i<s.length
  ·cases k with
   |zero=>omega
   |succ k=>
    have hp:=PW n (s.drop i);rw[xG,aLl h1 h3 hs hlt (by omega)];rw[aQw] at hp;have hu:vZ n (k+1) (s.drop i)=if (sI n (s.drop i)).2=0 then .inr 0 else match vZ n k ((s.drop i).drop (sI n (s.drop i)).2) with
      | .inl r=> .inl ((sI n (s.drop i)).1++r)
      | .inr e=> .inr ((sI n (s.drop i)).2+e):=by
     rw[aQL hlt,vZ]
    rw[hu];by_cases h0:(sI n (s.drop i)).2=0
    ·rw[aQj h0,aQj h0];rfl
    ·rw[aQl h0,aQl h0];show pU _ (_,((i+(sI n (s.drop i)).2:Nat):Int))=_;rw[aEw h1 h3 hs k _ _ (by omega) (by omega) (by rw[aQm];simp only[sE,aRq];omega),aQ9];cases vZ n k (s.drop (i+(sI n (s.drop i)).2)) with
     |inl r=>dsimp only;rw[V5,aQt]
     |inr e=>dsimp only;rw[aQ1]
  ·have:i=s.length:=by omega
   subst this;rw[wO (r:= .inl x) (by unfold PG;simp),aQ3];cases k<;>simp [vZ,sE]
theorem aEx {n:Int}(h1:1<=n) (h3:n<=3) {s:List UInt8}(hs:pQ s): ∀(k i:Nat) (x:List Int),i<=s.length->s.length-i<=k->x.length+4*(s.length-i)<=5000000000000->
  pU (LZ n s) ((i:Int),x)=some (match vZ n k (s.drop i) with| .inl r=> .inl (x++sE r) | .inr e=> .inr ([],((i+e:Nat):Int),3))
 |k,i,x,hi,hk,hx=>by
  by_cases hlt:i<s.length
  ·cases k with
   |zero=>omega
   |succ k=>
    have hp:=PW n (s.drop i);rw[xG,aLp h1 h3 hs hlt (by omega)];rw[aQw] at hp;have hu:vZ n (k+1) (s.drop i)=if (sI n (s.drop i)).2=0 then .inr 0 else match vZ n k ((s.drop i).drop (sI n (s.drop i)).2) with
      | .inl r=> .inl ((sI n (s.drop i)).1++r)
      | .inr e=> .inr ((sI n (s.drop i)).2+e):=by
     rw[aQL hlt,vZ]
    rw[hu];by_cases h0:(sI n (s.drop i)).2=0
    ·rw[aQj h0,aQj h0];rfl
    ·rw[aQl h0,aQl h0];show pU _ (((i+(sI n (s.drop i)).2:Nat):Int),_)=_;rw[aEx h1 h3 hs k _ _ (by omega) (by omega) (by rw[aQm];simp only[sE,aRq];omega),aQ9];cases vZ n k (s.drop (i+(sI n (s.drop i)).2)) with
     |inl r=>dsimp only;rw[V5,aQt]
     |inr e=>dsimp only;rw[aQ1]
  ·have:i=s.length:=by omega
   subst this;rw[wO (r:= .inl x) (by unfold LZ;simp),aQ3];cases k<;>simp [vZ,sE]
theorem aLq {n:Int}(h1:1<=n) (h3:n<=3) {s:List UInt8}(hs:pQ s):PH n s=some (y6 n s):=by
 unfold PH;have hs':=hs;unfold pQ at hs';rw[aQl (by simp;omega),show (([]:List Int),(0:Int))=(([]:List Int),((0:Nat):Int)) from rfl,aEw h1 h3 hs s.length 0 [] (by omega) (by omega) (by simp;omega),aRA];unfold y6;cases vZ n s.length s with
 |inl r=>
  show some (rW ([]++sE r),(0:Int),(0:Int))=_;rw[List.nil_append,V6]
 |inr e=>
  show some (([]:List UInt8),((0+e:Nat):Int),(3:Int))=_;rw[aQV]
theorem aLr {n:Int}(h1:1<=n) (h3:n<=3) {s:List UInt8}(hs:pQ s):EG n s=some (y6 n s):=by
 unfold EG;have hs':=hs;unfold pQ at hs';rw[aQl (by simp;omega),aQl (by simp;omega),show ((0:Int),([]:List Int))=(((0:Nat):Int),([]:List Int)) from rfl,aEx h1 h3 hs s.length 0 [] (by omega) (by omega) (by simp;omega),aRA];unfold y6;cases vZ n s.length s with
 |inl r=>
  show some (rW ([]++sE r),(0:Int),(0:Int))=_;rw[List.nil_append,V6]
 |inr e=>
  show some (([]:List UInt8),((0+e:Nat):Int),(3:Int))=_;rw[aQV]
def uR (b:UInt8):Bool:=((decide (b=32)||decide (b=9))||decide (b=10))||decide (b=13)
def sY (x y:UInt8):List UInt8->Bool
 |b::c::_=>decide (b=x)&&decide (c=y)
 |_=>false
def vE (l:List UInt8):Nat:=(l.findIdx? fun b=>decide (b=10)).getD l.length
def wU:List UInt8->Option Nat
 |[]=>none
 |b::t=>if sY 42 47 (b::t)=true then some 0 else(wU t).map (· +1)
def CK (n:Nat) (g:Nat×Bool):Nat×Bool:=(n+g.1,g.2)
def y7:Nat->List UInt8->Nat×Bool
 |0,_=>(0,true)
 |_+1,[]=>(0,true)
 |k+1,b::t=>
  if uR b=true then CK 1 (y7 k t)
  else if sY 47 47 (b::t)=true then CK (vE (b::t)) (y7 k ((b::t).drop (vE (b::t))))
  else if sY 47 42 (b::t)=true then match wU ((b::t).drop 2) with
   |none=>(0,false)
   |some e=>CK (e+4) (y7 k ((b::t).drop (e+4)))
  else(0,true)
def G (l:List UInt8):Nat×Bool:=y7 l.length l
theorem PX {l:List UInt8}(h:sY 47 47 l=true):2<=vE l/\vE l<=l.length:=by
 unfold sY at h;split at h
 ·rename_i b c t;simp only[aQr,aQq] at h;obtain⟨rfl,rfl⟩:=h;unfold vE;rw[aRm,aQl (by decide),aRm,aQl (by decide)];cases h:t.findIdx? fun b=>decide (b=10) with
  |none=>simp
  |some k=>
   have:=(aQX.1 h).1;simp;omega
 ·cases h
theorem V7: ∀{l:List UInt8}{e:Nat},wU l=some e->e+2<=l.length
 |[],_,h=>by cases h
 |b::t,e,h=>by
  unfold wU at h;split at h
  ·rename_i hb;cases h;cases t with
   |nil=>simp [sY] at hb
   |cons c t=>simp
  ·cases hc:wU t with
   |none=>rw[hc] at h;cases h
   |some e'=>
    rw[hc] at h;obtain rfl:e'+1=e:=aQo h;have:=V7 hc;simp only[aQp];omega
theorem V8: ∀(n k k':Nat) (l:List UInt8),l.length<=n->l.length<=k->l.length<=k'->y7 k l=y7 k' l
 |n,k,k',[],_,_,_=>by cases k<;>cases k'<;>rfl
 |0,_,_,b::t,h,_,_=>by simp at h
 |n+1,0,_,b::t,_,h,_=>by simp at h
 |n+1,_,0,b::t,_,_,h=>by simp at h
 |n+1,k+1,k'+1,b::t,h,h1,h2=>by
  simp only[aQp] at h h1 h2;unfold y7;split
  ·rw[V8 n k k' t (by omega) (by omega) (by omega)]
  ·split
   ·rename_i hb;have:=PX hb;rw[V8 n k k' _ (by rw[aQw];simp only[aQp];omega) (by rw[aQw];simp only[aQp];omega) (by rw[aQw];simp only[aQp];omega)]
   ·split
    ·cases hc:wU ((b::t).drop 2) with
     |none=>rfl
     |some e=>
      dsimp only;rw[V8 n k k' _ (by rw[aQw];simp only[aQp];omega) (by rw[aQw];simp only[aQp];omega) (by rw[aQw];simp only[aQp];omega)]
    ·rfl
theorem aEy {k:Nat}{l:List UInt8}(h:l.length<=k):y7 k l=G l:=V8 l.length k l.length l (aQF _) h (aQF _)
theorem M9 {b:UInt8}{t:List UInt8}(h:uR b=true):G (b::t)=CK 1 (G t):=by
 show y7 (t.length+1) (b::t)=_;unfold y7;rw[aQj h];rfl
theorem V9 {b:UInt8}{t:List UInt8}(h: ¬uR b=true) (h1:sY 47 47 (b::t)=true):G (b::t)=CK (vE (b::t)) (G ((b::t).drop (vE (b::t)))):=by
 have:=PX h1;show y7 (t.length+1) (b::t)=_;unfold y7;rw[aQl h,aQj h1,aEy (by rw[aQw];simp only[aQp];omega)]
theorem VA {b:UInt8}{t:List UInt8}(h: ¬uR b=true) (h1: ¬sY 47 47 (b::t)=true) (h2:sY 47 42 (b::t)=true) (hc:wU ((b::t).drop 2)=none):G (b::t)=(0,false):=by
 show y7 (t.length+1) (b::t)=_;unfold y7;rw[aQl h,aQl h1,aQj h2,hc]
theorem VB {b:UInt8}{t:List UInt8}{e:Nat}(h: ¬uR b=true) (h1: ¬sY 47 47 (b::t)=true) (h2:sY 47 42 (b::t)=true) (hc:wU ((b::t).drop 2)=some e):G (b::t)=CK (e+4) (G ((b::t).drop (e+4))):=by
 show y7 (t.length+1) (b::t)=_;unfold y7;rw[aQl h,aQl h1,aQj h2,hc];dsimp only;rw[aEy (by rw[aQw];simp only[aQp];omega)]
theorem PY {b:UInt8}{t:List UInt8}(h: ¬uR b=true) (h1: ¬sY 47 47 (b::t)=true) (h2: ¬sY 47 42 (b::t)=true):G (b::t)=(0,true):=by
 show y7 (t.length+1) (b::t)=_;unfold y7;rw[aQl h,aQl h1,aQl h2]
theorem MA: ∀(n:Nat) (l:List UInt8),l.length<=n->(G l).1<=l.length
 |_,[],_=>aQF _
 |0,_::_,h=>by simp at h
 |n+1,b::t,h=>by
  simp only[aQp] at h⊢;by_cases h0:uR b=true
  ·rw[M9 h0];have:=MA n t (by omega);show 1+_<=_;omega
  ·by_cases h1:sY 47 47 (b::t)=true
   ·rw[V9 h0 h1];have hl:=PX h1;have:=MA n ((b::t).drop (vE (b::t))) (by rw[aQw];simp only[aQp] at hl⊢;omega);rw[aQw] at this;simp only[aQp] at this hl;show vE _+_<=_;omega
   ·by_cases h2:sY 47 42 (b::t)=true
    ·cases hc:wU ((b::t).drop 2) with
     |none=>rw[VA h0 h1 h2 hc];exact aRc _
     |some e=>
      rw[VB h0 h1 h2 hc];have he:=V7 hc;have:=MA n ((b::t).drop (e+4)) (by rw[aQw];simp only[aQp];omega);rw[aQw] at this he;simp only[aQp] at this he;show e+4+_<=_;omega
    ·rw[PY h0 h1 h2];exact aRc _
theorem VC {s:List UInt8}{i:Nat}(hi:i<=s.length) (x y:UInt8):((decide ((([x,y]:List UInt8).length:Int)<=((s.length:Int)- (i:Int))))&&(decide ((pH s (i:Int) ((i:Int)+(([x,y]:List UInt8).length:Int)))=([x,y]:List UInt8))))=sY x y (s.drop i):=by
 have hc:pH s (i:Int) ((i:Int)+(([x,y]:List UInt8).length:Int))=(s.drop i).take 2:=by
  unfold pH;rw[aQ2];congr 1;show ((i:Int)+2).toNat-i=2;omega
 have hl:(s.drop i).length=s.length-i:=aQw;rw[hc];generalize s.drop i=r at hl
 match r,hl with
 |[],hl=>simp only[aQG] at hl;rw[show decide ((([x,y]:List UInt8).length:Int)<=((s.length:Int)- (i:Int)))=false by simp only[aQp,aQG,aQY];omega];rfl
 |[b],hl=>simp only[aQp,aQG] at hl;rw[show decide ((([x,y]:List UInt8).length:Int)<=((s.length:Int)- (i:Int)))=false by simp only[aQp,aQG,aQY];omega];rfl
 |b::c::t,hl=>
  simp only[aQp] at hl;rw[show decide ((([x,y]:List UInt8).length:Int)<=((s.length:Int)- (i:Int)))=true by simp;omega,Bool.true_and];show decide ([b,c]=[x,y])=_;unfold sY;rw[aRr];simp
theorem a6t {s:List UInt8}(hs:pQ s) {i:Nat}(hi:i<=s.length) (x y:UInt8):LB s (i:Int) [x,y]=some ():=by
 unfold pQ at hs;have h2:((([x,y]:List UInt8).length:Nat):Int)=2:=rfl;unfold LB;rw[h2,aQj (by unfold pB;omega),aQj (fun _=>by unfold pB;omega),aQj];intro h;simp only[aSz,aQq] at h;omega
theorem aEz (r:List UInt8) (x y:UInt8):((decide ((([x,y]:List UInt8).length:Int)<=(r.length:Int)))&&(decide ((pH r (0:Int) (([x,y]:List UInt8).length:Int))=([x,y]:List UInt8))))=sY x y r:=by
 have:=VC (s:=r) (i:=0) (aRc _) x y;rw[aRA,show ((0:Nat):Int)=0 from rfl,Int.sub_zero,Int.zero_add] at this;exact this
theorem aEA (r:List UInt8) (x y:UInt8):JA r [x,y]=some ():=by
 have h2:((([x,y]:List UInt8).length:Nat):Int)=2:=rfl;unfold JA LG;rw[h2,aQj]
 ·rfl
 ·intro h;simp only[aSz,aQq] at h;exact⟨aQ8 _,by decide,h⟩
theorem aEB (x y:UInt8):(x==y)=decide (y=x):=by
 by_cases h:y=x
 ·subst h;rw[beq_self_eq_true,aRs rfl]
 ·rw[decide_eq_false h,beq_eq_false_iff_ne];exact fun e=>h e.symm
theorem aEC {o:Option Nat}:(if (DI o== -1)=true then(-1:Int) else DI o+1)=DI (o.map (· +1)):=by
 cases o with
 |none=>rfl
 |some k=>
  show (if ((k:Int)== -1)=true then(-1:Int) else(k:Int)+1)=((k+1:Nat):Int);rw[aQl (by rw[aSz];omega)];rfl
theorem aED: ∀(l:List UInt8),Lib.indexByte l 10=DI (l.findIdx? fun b=>decide (b=10))
 |[]=>rfl
 |b::t=>by
  rw[Lib.indexByte,aRm,aED t,aEB,aEC];by_cases h:b=10
  ·subst h;rfl
  ·rw[aQl (by simpa using fun e=>h (Eq.symm e)),aQl (by simpa using h)]
theorem aEE: ∀(l:List UInt8),Lib.index l [42,47]=DI (wU l)
 |[]=>rfl
 |b::t=>by
  rw[Lib.index,wU,aEE t,aEC];have hp:([42,47]:List UInt8).isPrefixOf (b::t)=sY 42 47 (b::t):=by
   cases t with
   |nil=>simp only[List.isPrefixOf,Bool.and_false,sY]
   |cons c t=>simp only[List.isPrefixOf,Bool.and_true,sY,aEB]
  rw[hp];by_cases h:sY 42 47 (b::t)=true
  ·rw[aQj h,aQj h];rfl
  ·rw[aQl h,aQl h]
theorem aLs {s:List UInt8}(hs:pQ s) {i:Nat}(hi:i<=s.length):pU (OQ s) (i:Int)=some ((i+vE (s.drop i):Nat):Int):=by
 have hs':=hs;unfold pQ at hs';have h:=UQ (f:=OQ s) (l:=s) (fun b=> !decide (b=10)) (fun i h=>by
  unfold OQ;rw[aQj (fun _=>rT h),tH h,Bool.true_and,xV h,uC (n:=10) 10 rfl,aQj (sD (by omega))]) (by
  unfold OQ;have hF:decide ((s.length:Int)<(s.length:Int))=false:=by simp
  rw[hF,aQj (fun h=>by simp at h),aSe,aQl (by decide)]) (s.length-i) i (by omega)
 rw[h];unfold vE;simp only[Bool.not_not,aQw]
theorem aLt {s:List UInt8}{i:Nat}(h:i<s.length):wU (s.drop i)=if sY 42 47 (s.drop i)=true then some 0 else(wU (s.drop (i+1))).map (· +1):=by
 rw[aQL h,wU]
def a6u (i n:Nat):Option Nat->Int
 |some e=>(i:Int)+(e:Int)
 |none=>(n:Int)
theorem aEF {s:List UInt8}(hs:pQ s): ∀(n i:Nat),i+n=s.length->pU (OR s) (i:Int)=some (a6u i s.length (wU (s.drop i)))
 |0,i,h=>by
  have:i=s.length:=by omega
  subst this;have hF:decide ((s.length:Int)<(s.length:Int))=false:=by simp
  rw[wO (r:=(s.length:Int)) (by unfold OR;rw[hF,aQj (fun h=>by simp at h),aSe,aQl (by decide)]),aQ3];rfl
 |n+1,i,h=>by
  have hlt:i<s.length:=by omega
  have hs':=hs;unfold pQ at hs';rw[xG,aLt hlt];unfold OR;rw[a6t hs (by omega),VC (by omega),tH hlt,Bool.true_and,aQj (show ((true==true)=true->(some ()).isSome=true) from fun _=>rfl)];by_cases hb:sY 42 47 (s.drop i)=true
  ·rw[aQl (by rw[hb];decide),aQj hb];show some ((i:Int))=some ((i:Int)+((0:Nat):Int));rw[show ((i:Int)+((0:Nat):Int))=(i:Int) by omega]
  ·rw[aQj (by simpa using hb),aQj (sD (by omega)),aQl hb];show pU (OR s) ((i+1:Nat):Int)=_;rw[aEF hs n (i+1) (by omega)];cases wU (s.drop (i+1)) with
   |none=>rfl
   |some e=>
    show some ((((i+1:Nat)):Int)+(e:Int))=some ((i:Int)+(((e+1:Nat)):Int));rw[show (((i+1:Nat)):Int)+(e:Int)=(i:Int)+(((e+1:Nat)):Int) by omega]
theorem wsE (b:UInt8):((((decide ((b.toNat:Int)=(32:Int)))||(decide ((b.toNat:Int)=(9:Int))))||(decide ((b.toNat:Int)=(10:Int))))||(decide ((b.toNat:Int)=(13:Int))))=uR b:=by
 rw[uC (n:=32) 32 rfl,uC (n:=9) 9 rfl,uC (n:=10) 10 rfl,uC (n:=13) 13 rfl];rfl
theorem aEG {s:List UInt8}{i:Nat}(h:sY 47 42 (s.drop i)=true):i+2<=s.length:=by
 have hl:(s.drop i).length=s.length-i:=aQw;unfold sY at h;split at h
 ·rename_i b c t he;rw[he] at hl;simp only[aQp] at hl;omega
 ·cases h
theorem VD {s:List UInt8}(hs:pQ s): ∀(n i:Nat),i<=s.length->s.length-i<=n->rZ (pU (J8 s) (i:Int)) (fun x=>some x)=some ((i+(G (s.drop i)).1:Nat):Int)
 |n,i,hi,hn=>by
  have hs':=hs;unfold pQ at hs';by_cases hlt:i<s.length
  ·cases n with
   |zero=>omega
   |succ n=>
    have hd:=aQL hlt;rw[xG];unfold J8;rw[aQj (tH hlt),aQj (rT hlt),aQj (fun _=>rT hlt),aQj (fun _=>rT hlt),aQj (fun _=>rT hlt),xV hlt,wsE];by_cases h0:uR s[i]=true
    ·rw[aQj h0,aQj (sD (by omega)),hd,M9 h0];show rZ (pU (J8 s) ((i+1:Nat):Int)) _=_;rw[VD hs n (i+1) (by omega) (by omega)];show _=some (((i+(1+(G (s.drop (i+1))).1):Nat)):Int);rw[show i+1+(G (s.drop (i+1))).1=i+(1+(G (s.drop (i+1))).1) by omega]
    ·rw[aQl h0,a6t hs hi,aQi,VC hi];by_cases h1:sY 47 47 (s.drop i)=true
     ·have hl:=PX h1;rw[aQw] at hl;rw[aQj h1,aLs hs hi];unfold qZ;rw[aQi];show rZ (pU (J8 s) ((i+vE (s.drop i):Nat):Int)) _=_;rw[VD hs n (i+vE (s.drop i)) (by omega) (by omega)];have hg:G (s.drop i)=CK (vE (s.drop i)) (G ((s.drop i).drop (vE (s.drop i)))):=by
       rw[hd] at h1⊢;exact V9 h0 h1
      rw[hg,aQ9];show _=some (((i+(vE (s.drop i)+(G (s.drop (i+vE (s.drop i)))).1):Nat)):Int);rw[aQ1]
     ·rw[aQl h1,a6t hs hi,aQi,VC hi];by_cases h2:sY 47 42 (s.drop i)=true
      ·have h2l:=aEG h2;rw[aQj h2,aQj (by unfold pB;omega),show ((i:Int)+2)=((i+2:Nat):Int) by omega,aEF hs (s.length- (i+2)) (i+2) (by omega)];unfold qZ;rw[aQi];cases hc:wU (s.drop (i+2)) with
       |none=>
        rw[show a6u (i+2) s.length none=(s.length:Int) from rfl,aQj (by simp)];have hg:G (s.drop i)=(0,false):=by
         rw[hd] at h1 h2⊢;exact VA h0 h1 h2 (by rw[<-hd,aQ9];exact hc)
        rw[hg];rfl
       |some e=>
        have he:=V7 hc;rw[aQw] at he;have hz:a6u (i+2) s.length (some e)=(i:Int)+2+(e:Int):=by
         show (((i+2:Nat)):Int)+(e:Int)=_;omega
        rw[hz,aQl (by rw[aQq];omega),aQj (by unfold pB;omega)];have hg:G (s.drop i)=CK (e+4) (G ((s.drop i).drop (e+4))):=by
         rw[hd] at h1 h2⊢;exact VB h0 h1 h2 (by rw[<-hd,aQ9];exact hc)
        show rZ (pU (J8 s) ((i:Int)+2+(e:Int)+2)) _=_;rw[show ((i:Int)+2+(e:Int)+2)=((i+(e+4):Nat):Int) by omega,VD hs n (i+(e+4)) (by omega) (by omega),hg,aQ9];show _=some (((i+(e+4+(G (s.drop (i+(e+4)))).1):Nat)):Int);rw[show i+(e+4+(G (s.drop (i+(e+4)))).1)=i+(e+4)+(G (s.drop (i+(e+4)))).1 by omega]
      ·rw[aQl h2];have hg:G (s.drop i)=(0,true):=by
        rw[hd] at h1 h2⊢;exact PY h0 h1 h2
       rw[hg];rfl
  ·have:i=s.length:=by omega
   subst this;rw[wO (r:= .inl (s.length:Int)) (by unfold J8;rw[aQl (vN _)]),aQ3];rfl
theorem PZ {s:List UInt8}(hs:pQ s) {i:Nat}(hi:i<=s.length):LO s (i:Int)=some ((i+(G (s.drop i)).1:Nat):Int):=by
 unfold LO;exact VD hs (s.length-i) i hi (aQF _)
theorem wsI (b:UInt8):decide ((0:Int)<=sW ([32,9,10,13]:List UInt8) (b.toNat:Int))=uR b:=by
 rw[sib,<-Lib.contains_iff_indexByte];unfold uR;rw[aRr];simp [or_assoc]
theorem aLw {t:List UInt8}:G (10::t)=CK 1 (G t):=M9 rfl
theorem aLx {l:List UInt8}{k:Nat}(h:l.findIdx? (fun b=>decide (b=10))=some k):vE l=k/\k<l.length/\l.drop k=10::l.drop (k+1):=by
 obtain⟨hk,hp,_⟩:=aQX.1 h;refine⟨by unfold vE;rw[h];rfl,hk,?_⟩;rw[aQL hk];simp only[aQq] at hp;rw[hp]
theorem aLy {l:List UInt8}(h:l.findIdx? (fun b=>decide (b=10))=none):vE l=l.length:=by unfold vE;rw[h];rfl
theorem Q0 {s:List UInt8}(hs:pQ s) (j0:Int): ∀(n i:Nat),i<=s.length->s.length-i<=n->rZ (pU (FU (s,(j0,()))) (i:Int)) (fun x=>some (true,x))=some ((G (s.drop i)).2,((i+(G (s.drop i)).1:Nat):Int))
 |n,i,hi,hn=>by
  have hs':=hs;unfold pQ at hs';by_cases hlt:i<s.length
  ·cases n with
   |zero=>omega
   |succ n=>
    have hd:=aQL hlt;have hl:(s.drop i).length=s.length-i:=aQw;rw[xG];unfold FU;dsimp only;rw[aQj (tH hlt),aQj ⟨by omega,by omega,aQ8 _⟩,EJ,aQj ⟨aQ8 _,by omega⟩];have hb:pL (s.drop i) 0=(s[i].toNat:Int):=by
     rw[hd];exact xV (i:=0) (by simp only[aQp];omega)
    rw[hb,wsI];by_cases h0:uR s[i]=true
    ·rw[aQj h0,aQj (sD (by omega)),hd,M9 h0];show rZ (pU (FU (s,(j0,()))) ((i+1:Nat):Int)) _=_;rw[Q0 hs j0 n (i+1) (by omega) (by omega)];show _=some ((G (s.drop (i+1))).2,(((i+(1+(G (s.drop (i+1))).1):Nat)):Int));rw[show i+1+(G (s.drop (i+1))).1=i+(1+(G (s.drop (i+1))).1) by omega]
    ·rw[aQl h0,aEA,aQi,aEz];by_cases h1:sY 47 47 (s.drop i)=true
     ·have hg:G (s.drop i)=CK (vE (s.drop i)) (G ((s.drop i).drop (vE (s.drop i)))):=by
       rw[hd] at h1⊢;exact V9 h0 h1
      have hx:sW (s.drop i) 10=DI ((s.drop i).findIdx? fun b=>decide (b=10)):=aED _;rw[aQj h1,hx];cases hf:(s.drop i).findIdx? fun b=>decide (b=10) with
      |none=>
       have hln:=aLy hf;rw[aQj (by decide),aQj (by unfold pB;omega),aQj (by unfold pB;omega),aQj (by unfold pB;omega),hl];show rZ (pU (FU (s,(j0,()))) _) _=_;rw[show ((i:Int)+(((s.length-i:Nat):Int)-1+1))=((s.length:Nat):Int) by omega,Q0 hs j0 n s.length (aQF _) (by omega),hg,hln,aQ3,aQ3,hl];show some (true,((s.length+0:Nat):Int))=some (true,((i+(s.length-i+0):Nat):Int));rw[show s.length+0=i+(s.length-i+0) by omega]
      |some k=>
       obtain⟨hln,hk,hdk⟩:=aLx hf;rw[hl] at hk;show rZ (Option.bind (if decide ((k:Int)<0)=true then _ else if pB ((k:Int)+1) then if pB ((i:Int)+((k:Int)+1)) then _ else _ else _) _) _=_;rw[aQl (by simp),aQj (sD (by omega)),aQj (by unfold pB;omega)];show rZ (pU (FU (s,(j0,()))) ((i:Int)+((k:Int)+1))) _=_;rw[show ((i:Int)+((k:Int)+1))=((i+(k+1):Nat):Int) by omega,Q0 hs j0 n (i+(k+1)) (by omega) (by omega),hg,hln,hdk,aLw,aQ9];show some ((G (s.drop (i+(k+1)))).2,_)=some ((G (s.drop (i+(k+1)))).2,(((i+(k+(1+(G (s.drop (i+(k+1)))).1)):Nat)):Int));rw[show i+(k+(1+(G (s.drop (i+(k+1)))).1))=i+(k+1)+(G (s.drop (i+(k+1)))).1 by omega]
     ·rw[aQl h1,aEA,aQi,aEz];by_cases h2:sY 47 42 (s.drop i)=true
      ·have h2l:=aEG h2;have hcut:pH (s.drop i) 2 ((s.drop i).length:Int)=s.drop (i+2):=by
        rw[show ((2:Int))=((2:Nat):Int) from rfl,EJ,aQ9]
       rw[aQj h2,aQj ⟨by decide,by omega,aQ8 _⟩,hcut,aQj (by rw[aQw];omega),show L1 (s.drop (i+2)) [42,47]=DI (wU (s.drop (i+2))) from aEE _];cases hc:wU (s.drop (i+2)) with
       |none=>
        rw[aQj (by decide)];have hg:G (s.drop i)=(0,false):=by
         rw[hd] at h1 h2⊢;exact VA h0 h1 h2 (by rw[<-hd,aQ9];exact hc)
        rw[hg];rfl
       |some e=>
        have he:=V7 hc;rw[aQw] at he;have hg:G (s.drop i)=CK (e+4) (G ((s.drop i).drop (e+4))):=by
         rw[hd] at h1 h2⊢;exact VB h0 h1 h2 (by rw[<-hd,aQ9];exact hc)
        show rZ (Option.bind (if decide ((e:Int)<0)=true then _ else if pB ((e:Int)+4) then if pB ((i:Int)+((e:Int)+4)) then _ else _ else _) _) _=_;rw[aQl (by simp),aQj (by unfold pB;omega),aQj (by unfold pB;omega)];show rZ (pU (FU (s,(j0,()))) ((i:Int)+((e:Int)+4))) _=_;rw[show ((i:Int)+((e:Int)+4))=((i+(e+4):Nat):Int) by omega,Q0 hs j0 n (i+(e+4)) (by omega) (by omega),hg,aQ9];show _=some ((G (s.drop (i+(e+4)))).2,(((i+(e+4+(G (s.drop (i+(e+4)))).1):Nat)):Int));rw[show i+(e+4+(G (s.drop (i+(e+4)))).1)=i+(e+4)+(G (s.drop (i+(e+4)))).1 by omega]
      ·rw[aQl h2];have hg:G (s.drop i)=(0,true):=by
        rw[hd] at h1 h2⊢;exact PY h0 h1 h2
       rw[hg];rfl
  ·have:i=s.length:=by omega
   subst this;rw[wO (r:= .inl (s.length:Int)) (by unfold FU;rw[aQl (vN _)]),aQ3];rfl
theorem aLz {s:List UInt8}(hs:pQ s) {i:Nat}(hi:i<=s.length):HB (s,((i:Int),()))=some ((G (s.drop i)).2,((i+(G (s.drop i)).1:Nat):Int)):=by
 unfold HB;exact Q0 hs _ (s.length-i) i hi (aQF _)
def xN (c:Int):Bool:=((decide ((97:Int)≤c))&&(decide (c≤(122:Int))))||((decide ((65:Int)≤c))&&(decide (c≤(90:Int))))
def Q1 (c:Int):Bool:=((((xN c)||((decide ((48:Int)≤c))&&(decide (c≤(57:Int)))))||(decide (c=(45:Int))))||(decide (c=(95:Int))))||(decide (c=(46:Int)))
def vA (b:UInt8):Bool:=Q1 b.toNat
def wV (l:List UInt8):Nat:=(l.findIdx? fun b=> !vA b).getD l.length
theorem a6v (l:List UInt8):wV l≤l.length:=by
  unfold wV;cases h:l.findIdx? fun b=> !vA b with
  |none=>exact aQF _
  |some k=>exact Nat.le_of_lt (aQX.1 h).1
def xO (t:List UInt8):Int×List UInt8×Nat:=
  match sA 34 t with
  |none=>(0,[],0)
  |some n=>if (y6 3 (t.take n)).2.2≠0∨s0 (y6 3 (t.take n)).1=false then(0,[],0) else(1,(y6 3 (t.take n)).1,n+2)
def uK (r:List UInt8):Int×List UInt8×Nat:=
  match r with
  |[]=>(4,[],0)
  |b::t=>if b=123∨b=125 then(3,[b],1) else if b=34 then xO t else if xN b.toNat=true then(2,(b::t).take (wV (b::t)),wV (b::t)) else(0,[],0)
theorem MB {b:UInt8}{t:List UInt8}(h:b=123∨b=125):uK (b::t)=(3,[b],1):=aQj h
theorem MC {b:UInt8}{t:List UInt8}(h: ¬(b=123∨b=125)) (h2:b=34):uK (b::t)=xO t:=(aQl h).trans (aQj h2)
theorem MD {b:UInt8}{t:List UInt8}(h: ¬(b=123∨b=125)) (h2: ¬b=34) (h3:xN b.toNat=true):uK (b::t)=(2,(b::t).take (wV (b::t)),wV (b::t)):=(aQl h).trans ((aQl h2).trans (aQj h3))
theorem ME {b:UInt8}{t:List UInt8}(h: ¬(b=123∨b=125)) (h2: ¬b=34) (h3: ¬xN b.toNat=true):uK (b::t)=(0,[],0):=(aQl h).trans ((aQl h2).trans (aQl h3))
def t8 (l:List UInt8):Int×List UInt8×Nat×Nat:=
  if (G l).2=true then((uK (l.drop (G l).1)).1,(uK (l.drop (G l).1)).2.1,(G l).1,(G l).1+(uK (l.drop (G l).1)).2.2) else(0,[],(G l).1,(G l).1)
theorem Q2: ∀(n:Nat) (l:List UInt8),l.length≤n→(G l).2=false→∃t,l.drop (G l).1=47::t
  |_,[],_,h=>by cases h
  |0,_::_,h,_=>by simp at h
  | n+1,b::t,hl,h=>by
    simp only[aQp] at hl;by_cases h0:uR b=true
    · rw[M9 h0] at h⊢
      obtain⟨u,hu⟩:=Q2 n t (by omega) h;refine⟨u,?_⟩;show (b::t).drop (1+(G t).1)=_;rw[Nat.add_comm,aSk];exact hu
    · by_cases h1:sY 47 47 (b::t)=true
      · rw[V9 h0 h1] at h⊢
        have hp:=PX h1;obtain⟨u,hu⟩:=Q2 n ((b::t).drop (vE (b::t))) (by rw[aQw];simp only[aQp] at hp⊢;omega) h;refine⟨u,?_⟩;rw[aQ9] at hu;exact hu
      · by_cases h2:sY 47 42 (b::t)=true
        · cases hc:wU ((b::t).drop 2) with
          | none=>
            rw[VA h0 h1 h2 hc];unfold sY at h2;split at h2
            · rename_i b' c' t' he
              simp only[aQr,aQq] at h2;exact⟨c'::t',by rw[he,h2.1];rfl⟩
            ·cases h2
          | some e=>
            rw[VB h0 h1 h2 hc] at h⊢;obtain⟨u,hu⟩:=Q2 n ((b::t).drop (e+4)) (by rw[aQw];simp only[aQp];omega) h;refine⟨u,?_⟩;rw[aQ9] at hu;exact hu
        ·rw[PY h0 h1 h2] at h;cases h
theorem aLA (t:List UInt8):uK (47::t)=(0,[],0):=by
  exact ME (by decide) (by decide) (by decide)
theorem aLB (t:List UInt8):(xO t).2.2≤t.length+1:=by
  unfold xO;cases h:sA 34 t with
  |none=>exact aRc _
  | some n=>
    have:=PU t.length t n (aQF _) h;dsimp only;split
    ·exact aRc _
    ·show n+2≤_;omega
theorem aLC (r:List UInt8):(uK r).2.2≤r.length:=by
  unfold uK;split
  ·exact aRc _
  · rename_i b t
    split
    ·simp
    · split
      ·exact aLB t
      · split
        ·exact a6v _
        ·exact aRc _
theorem aLD (l:List UInt8):(t8 l).2.2.1≤(t8 l).2.2.2∧(t8 l).2.2.2≤l.length:=by
  have h1:=MA l.length l (aQF _);have h2:=aLC (l.drop (G l).1);rw[aQw] at h2;unfold t8;split
  ·dsimp only;omega
  ·dsimp only;omega
theorem aEH {s:List UInt8}(hs:pQ s) (n:Nat):pQ (s.drop n):=by unfold pQ at*;rw[aQw];omega
theorem aEI {s:List UInt8}(hs:pQ s) (n:Nat):pQ (s.take n):=by unfold pQ at*;rw[aQM];omega
def kR (k:Int):Int:=if k=4 then 0 else k
theorem aEJ {α:Type}{l:List α}{a n:Nat}:pH l (a:Int) ((a:Int)+(n:Int))=(l.drop a).take n:=by
  unfold pH;rw[aQ2];congr 1;omega
theorem aLE {s:List UInt8}(hs:pQ s) {p:Nat}(hp:p≤s.length):pU (PI s) (p:Int)=some ((p+wV (s.drop p):Nat):Int):=by
  have hs':=hs;unfold pQ at hs'
  have h:=UQ (f:=PI s) (l:=s) (fun b=>vA b) (fun i h=>by
    unfold PI;rw[aQj (fun _=>rT h),aQj (fun _=>rT h),aQj (fun _=>rT h),aQj (fun _=>rT h),aQj (fun _=>rT h),aQj (fun _=>rT h),tH h,Bool.true_and,xV h,aQj (sD (by omega))];rfl) (by
    unfold PI;have hF:decide ((s.length:Int)<(s.length:Int))=false:=by simp
    rw[hF];simp only[aSe,show (false==true)=false from rfl,aRC,false_implies,aRZ,aSx]) (s.length-p) p (by omega)
  rw[h];unfold wV;rw[aQw]
theorem aLF (l:List UInt8):(wG l).2=0∨(wG l).1.length≤(wG l).2:=by
  unfold wG;split
  · rename_i a c t
    have h1:=V4 (l:=t.take 2) (k:=4) (ok:=fun n=>decide (n≤127)) (f:=fun n=>rW [n]) (fun n=>by simp [rW]);have h2:=V4 (l:=t.take 4) (k:=6) (ok:=vO) (f:=Lib.encodeRune) a6o
    repeat' split
    all_goals first
      |exact .inl rfl
      |exact .inr (by simp)
      | (rcases h1.2 with e|e
         ·exact .inl e
         ·exact .inr (by rw[e];exact h1.1))
      | (rcases h2.2 with e|e
         ·exact .inl e
         ·exact .inr (by rw[e];have:=h2.1;omega))
  ·exact .inl rfl
theorem aLG (n:Int) (l:List UInt8):(sI n l).2=0∨(sI n l).1.length≤(sI n l).2:=by
  cases l with
  |nil=>exact .inl rfl
  | cons b t=>
    by_cases h:b=92
    ·rw[M7 h];exact aLF _
    · by_cases hb:zP n b=true
      ·rw[JO h hb];exact .inl rfl
      ·rw[M8 h hb];exact .inr (by simp)
theorem aEK (n:Int): ∀(k:Nat) (l r:List UInt8),vZ n k l= .inl r→r.length≤l.length
  |0,_,_,h=>by cases h;simp
  |_+1,[],_,h=>by cases h;simp
  | k+1,b::t,r,h=>by
    rw[vZ] at h;split at h
    ·cases h
    · rename_i hz
      have hp:=(aLG n (b::t)).resolve_left hz;have hq:=(PW n (b::t)).2;cases hu:vZ n k ((b::t).drop (sI n (b::t)).2) with
      | inl r'=>
        rw[hu] at h;cases h;have:=aEK n k _ r' hu;rw[aQw] at this;rw[aQm];omega
      |inr e=>rw[hu] at h;cases h
theorem a6w (n:Int) (s:List UInt8):(y6 n s).1.length≤s.length:=by
  unfold y6;cases h:vZ n s.length s with
  |inl r=>exact aEK n _ _ _ h
  |inr e=>simp
theorem JP {s:List UInt8}(h:s.length≤4000000000):pQ s:=by unfold pQ;omega
theorem aLH {s:List UInt8}(hsm:s.length≤4000000000) {i:Nat}(hi:i≤s.length):
    LX s (i:Int)=some (kR (t8 (s.drop i)).1,(t8 (s.drop i)).2.1,((i+(t8 (s.drop i)).2.2.1:Nat):Int),((i+(t8 (s.drop i)).2.2.2:Nat):Int)):=by
  have hs:=JP hsm;have hgl:=MA (s.drop i).length (s.drop i) (aQF _);rw[aQw] at hgl;unfold LX;rw[PZ hs hi,aQi];obtain⟨p,hp⟩: ∃p,i+(G (s.drop i)).1=p:=⟨_,rfl⟩;have hdp:(s.drop i).drop (G (s.drop i)).1=s.drop p:=by rw[aQ9,hp]
  have hpl:p≤s.length:=by omega
  have hspec: ∀k t n,uK (s.drop p)=(k,t,n)→(kR (t8 (s.drop i)).1,(t8 (s.drop i)).2.1,((i+(t8 (s.drop i)).2.2.1:Nat):Int),((i+(t8 (s.drop i)).2.2.2:Nat):Int))=(kR k,t,(p:Int),((p+n:Nat):Int)):=by
    intro k t n hk;unfold t8;by_cases hg:(G (s.drop i)).2=true
    · rw[aQj hg,hdp,hk]
      dsimp only;rw[←aQ1,hp]
    · rw[aQl hg]
      obtain⟨u,hu⟩:=Q2 _ (s.drop i) (aQF _) (by simpa using hg);rw[hdp] at hu;rw[hu,aLA] at hk;cases hk;dsimp only;rw[hp];rfl
  rw[hp];by_cases hend:p=s.length
  · have hnil:s.drop p=[]:=by rw[hend,aQ3]
    rw[aQj (by rw[hend];simp),hspec 4 [] 0 (by rw[hnil];rfl)];rfl
  · have hlt:p<s.length:=by omega
    have hd:=aQL hlt;rw[aQl (by simp;omega),aQj (rT hlt),xV hlt,uC (n:=123) 123 rfl,uC (n:=125) 125 rfl,uC (n:=34) 34 rfl];by_cases h1:s[p]=123∨s[p]=125
    · have hz:pH s (p:Int) ((p:Int)+1)=[s[p]]:=aEv hlt
      rw[aQj (by simpa using h1),aQj (sD (by omega)),aQj ⟨by omega,by omega,by omega⟩,aQj (sD (by omega)),hz,hspec 3 [s[p]] 1 (by rw[hd];exact MB h1)];rfl
    · rw[aQl (by simpa using h1)]
      by_cases h2:s[p]=34
      · have hct:pH s ((p:Int)+1) (s.length:Int)=s.drop (p+1):=by
          rw[show ((p:Int)+1)=((p+1:Nat):Int) by omega,EJ]
        have hA:uK (s.drop p)=xO (s.drop (p+1)):=by rw[hd];exact MC h1 h2
        rw[aQj (by simpa using h2),aQj (sD (by omega)),aQj ⟨by omega,by omega,aQ8 _⟩,hct,show ((34:Int))=((34:UInt8).toNat:Int) from rfl,aEm (by decide) (by decide) _ _ (aEH hs _),aQi];unfold xO at hA;cases he:sA 34 (s.drop (p+1)) with
        | none=>
          rw[he] at hA;rw[aQj (by decide),hspec 0 [] 0 hA];rfl
        | some k=>
          rw[he] at hA;dsimp only at hA;have hk:=PU _ _ _ (aQF _) he;rw[aQw] at hk
          have hcm:pH s ((p:Int)+1) ((p:Int)+1+(k:Int))=(s.drop (p+1)).take k:=by
            rw[show ((p:Int)+1)=((p+1:Nat):Int) by omega,aEJ]
          have hft:pQ ((s.drop (p+1)).take k):=aEI (aEH hs _) _;show (if decide ((k:Int)<0)=true then _ else if pB ((p:Int)+1) then if pB ((p:Int)+1) then if pB ((p:Int)+1+(k:Int)) then if 0≤(p:Int)+1∧(p:Int)+1≤(p:Int)+1+(k:Int)∧(p:Int)+1+(k:Int)≤(s.length:Int) then(PH 3 (pH s ((p:Int)+1) ((p:Int)+1+(k:Int)))).bind _ else _ else _ else _ else _)=_;rw[aQl (by simp),aQj (sD (by omega)),aQj (sD (by omega)),aQj (by unfold pB;omega),aQj ⟨by omega,by omega,by omega⟩,hcm,aLq (by decide) (by decide) hft,aQi];generalize hu:y6 3 ((s.drop (p+1)).take k)=u at hA⊢
          have hul:pQ u.1:=by
            have:=a6w 3 ((s.drop (p+1)).take k);rw[hu,aQM,aQw] at this;unfold pQ;omega
          obtain⟨ht1,ht2⟩:=aK6 u.1 hul;rw[aQj (fun _=>by rw[ht1];rfl),ht2];by_cases hb:u.2.2≠0∨s0 u.1=false
          · rw[aQj hb] at hA
            rw[aQj (by
              rcases hb with hb|hb
              ·simp [hb]
              ·simp [hb]),hspec 0 [] 0 hA]
            rfl
          · rw[aQl hb] at hA
            have hb1:u.2.2=0:=by
              by_cases h:u.2.2=0
              ·exact h
              ·exact absurd (.inl h) hb
            have hb2:s0 u.1=true:=by
              cases h:s0 u.1 with
              |true=>rfl
              |false=>exact absurd (.inr h) hb
            rw[aQl (by simp [hb1,hb2])];show (if pB ((p:Int)+(k:Int)) then if pB ((p:Int)+(k:Int)+2) then _ else _ else _)=_;rw[aQj (by unfold pB;omega),aQj (by unfold pB;omega),hspec 1 u.1 (k+2) hA];show some ((1:Int),u.1,(p:Int),(p:Int)+(k:Int)+2)=some (kR 1,u.1,(p:Int),((p+(k+2):Nat):Int));rw[show (p:Int)+(k:Int)+2=((p+(k+2):Nat):Int) by omega];rfl
      · rw[aQl (by simpa using h2)]
        show (if xN (s[p].toNat:Int)=true then _ else _)=_;by_cases h3:xN (s[p].toNat:Int)=true
        · have hw:=a6v (s.drop p)
          rw[aQw] at hw;rw[aQj h3,aLE hs hpl];unfold qZ;rw[aQi,aQj ⟨by omega,by omega,by omega⟩,hspec 2 ((s.drop p).take (wV (s.drop p))) (wV (s.drop p)) (by rw[hd];exact MD h1 h2 h3)];rw[show ((p+wV (s.drop p):Nat):Int)=(p:Int)+(wV (s.drop p):Int) by omega,aEJ];rfl
        · rw[aQl h3,hspec 0 [] 0 (by rw[hd];exact ME h1 h2 h3)]
          rfl
def Q3 (c:Int):Bool:=(((decide ((127:Int)<c))||(((((!(((decide ((97:Int)<=(IntKind.wrap .u8 c)))&&(decide ((IntKind.wrap .u8 c)<=(122:Int))))||((decide ((65:Int)<=(IntKind.wrap .u8 c)))&&(decide ((IntKind.wrap .u8 c)<=(90:Int))))))&&((decide (c<(48:Int)))||(decide ((57:Int)<c))))&&(!decide (c=(45:Int))))&&(!decide (c=(95:Int))))&&(!decide (c=(46:Int)))))==true)
theorem aLI (b:UInt8):Q3 b.toNat= !vA b:=by
 have hb:=b.toNat_lt;unfold Q3 vA Q1 xN;rw[show IntKind.wrap .u8 (b.toNat:Int)=(b.toNat:Int) by rw[aRB];omega];generalize (b.toNat:Int)=c at*;rw[aRr];simp;omega
theorem aLJ (s:List UInt8):J6 s=some (DI (s.findIdx? fun b=> !vA b)):=by
 have h:=aAB (f:=OO s true) (s:=s) (fun c=>Q3 c) (fun k=>(k:Int)) (fun c h=>by unfold Q3;rw[show decide ((127:Int)<c)=true by simp;omega];rfl) (fun i h=>by
  unfold OO;rw[aQj (by simpa using h),aQj (by simpa using h),aQj (by simpa using h)];rfl) (by
  unfold OO;rw[aQl (by simp)])
 unfold J6 LN;rw[h,EI,aQi];congr 1;rw[show (fun b:UInt8=>Q3 b.toNat)=fun b=> !vA b from funext aLI];cases s.findIdx? fun b=> !vA b<;>rfl
theorem aLK {t:List UInt8}(hsm:t.length<=4000000000) (b:UInt8) (p:Nat) (hp:p<=4000000000):FZ (b::t) (p:Int)=some ((xO t).1,(xO t).2.1,((p+(xO t).2.2:Nat):Int)):=by
 have hs:=JP hsm;have hct:pH (b::t) 1 ((b::t).length:Int)=t:=by
  rw[show ((1:Int))=((1:Nat):Int) from rfl,EJ];rfl
 unfold FZ;rw[aQj ⟨by decide,by simp only[aQp];omega,aQ8 _⟩,hct,aLd,show ((34:Int))=((34:UInt8).toNat:Int) from rfl,aEm (by decide) (by decide) _ _ hs,aQi];unfold xO;cases he:sA 34 t with
 |none=>
  rw[aQj (by decide)];rfl
 |some k=>
  have hk:=PU _ _ _ (aQF _) he;have hcm:pH (b::t) 1 ((k:Int)+1)=t.take k:=by
   unfold pH;rw[show ((k:Int)+1).toNat- (1:Int).toNat=k by omega];rfl
  have hft:pQ (t.take k):=aEI hs _;show (if decide ((k:Int)<0)=true then _ else if pB ((k:Int)+1) then if 0<=(1:Int)/\(1:Int)<=(k:Int)+1/\(k:Int)+1<=((b::t).length:Int) then(EG 3 (pH (b::t) 1 ((k:Int)+1))).bind _ else _ else _)=_;rw[aQl (by simp),aQj (sD (by omega)),aQj ⟨by decide,by omega,by simp only[aQp];omega⟩,hcm,aLr (by decide) (by decide) hft,aQi];dsimp only;generalize hu:y6 3 (t.take k)=u;have hul:pQ u.1:=by
   have:=a6w 3 (t.take k);rw[hu,aQM] at this;unfold pQ;omega
  have ht1:=M6 u.1 hul;rw[aQj (fun _=>by rw[ht1];rfl)];show (if (!decide (u.2.2=0)|| !s0 u.1)=true then _ else _)=_
  by_cases hb:u.2.2≠0\/s0 u.1=false
  ·rw[aQj hb,aQj (by
    rcases hb with hb|hb
    ·simp [hb]
    ·simp [hb])]
   rfl
  ·have hb1:u.2.2=0:=by
    by_cases h:u.2.2=0
    ·exact h
    ·exact absurd (.inl h) hb
   have hb2:s0 u.1=true:=by
    cases h:s0 u.1 with
    |true=>rfl
    |false=>exact absurd (.inr h) hb
   rw[aQl hb,aQl (by simp [hb1,hb2])];show (if pB ((p:Int)+(k:Int)) then if pB ((p:Int)+(k:Int)+2) then _ else _ else _)=_;rw[aQj (by unfold pB;omega),aQj (by unfold pB;omega)];show some ((1:Int),u.1,(p:Int)+(k:Int)+2)=some ((1:Int),u.1,((p+(k+2):Nat):Int));rw[show (p:Int)+(k:Int)+2=((p+(k+2):Nat):Int) by omega]
theorem a6x {s:List UInt8}(hsm:s.length<=4000000000) {i:Nat}(hi:i<=s.length):
  B1 (s,((i:Int),()))=some ((t8 (s.drop i)).1,(t8 (s.drop i)).2.1,((i+(t8 (s.drop i)).2.2.1:Nat):Int),((i+(t8 (s.drop i)).2.2.2:Nat):Int),((i+(t8 (s.drop i)).2.2.2:Nat):Int)):=by
 have hs:=JP hsm;have hgl:=MA (s.drop i).length (s.drop i) (aQF _);rw[aQw] at hgl;unfold B1;rw[aLz hs hi,aQi];dsimp only;obtain⟨p,hp⟩: ∃p,i+(G (s.drop i)).1=p:=⟨_,rfl⟩;have hdp:(s.drop i).drop (G (s.drop i)).1=s.drop p:=by rw[aQ9,hp]
 have hpl:p<=s.length:=by omega
 rw[hp];by_cases hg:(G (s.drop i)).2=true
 ·rw[aQl (by rw[hg];decide)];have hspec: ∀k t n,uK (s.drop p)=(k,t,n)->((t8 (s.drop i)).1,(t8 (s.drop i)).2.1,((i+(t8 (s.drop i)).2.2.1:Nat):Int),((i+(t8 (s.drop i)).2.2.2:Nat):Int),((i+(t8 (s.drop i)).2.2.2:Nat):Int))=(k,t,(p:Int),((p+n:Nat):Int),((p+n:Nat):Int)):=by
   intro k t n hk;unfold t8;rw[aQj hg,hdp,hk];dsimp only;rw[<-aQ1,hp]
  by_cases hend:p=s.length
  ·have hnil:s.drop p=[]:=by rw[hend,aQ3]
   rw[aQj (by rw[hend];simp),hspec 4 [] 0 (by rw[hnil];rfl)];rfl
  ·have hlt:p<s.length:=by omega
   have hd:=aQL hlt;have hdl:(s.drop p).length=s.length-p:=aQw;have hb:pL (s.drop p) 0=(s[p].toNat:Int):=by
    rw[hd];exact xV (i:=0) (by simp only[aQp];omega)
   rw[aQl (by simp;omega),EJ,aQj ⟨by omega,by omega,aQ8 _⟩,aQj ⟨aQ8 _,by omega⟩,hb,uC (n:=123) 123 rfl,uC (n:=125) 125 rfl,uC (n:=34) 34 rfl];by_cases h1:s[p]=123\/s[p]=125
   ·have hz:pH (s.drop p) 0 1=[s[p]]:=by rw[hd];rfl
    rw[aQj (by simpa using h1),aQj ⟨aQ8 _,by decide,by omega⟩,aQj (sD (by omega)),hz,hspec 3 [s[p]] 1 (by rw[hd];exact MB h1)];rfl
   ·rw[aQl (by simpa using h1)];by_cases h2:s[p]=34
    ·have hA:uK (s.drop p)=xO (s.drop (p+1)):=by rw[hd];exact MC h1 h2
     rw[aQj (by simpa using h2)];have hq:=aLK (t:=s.drop (p+1)) (by rw[aQw];omega) s[p] p (by omega);rw[<-hd] at hq;rw[hq,aQi,hspec (xO (s.drop (p+1))).1 (xO (s.drop (p+1))).2.1 (xO (s.drop (p+1))).2.2 hA]
    ·rw[aQl (by simpa using h2)];show (if xN (s[p].toNat:Int)=true then _ else _)=_;by_cases h3:xN (s[p].toNat:Int)=true
     ·have hw:=a6v (s.drop p);rw[hdl] at hw;rw[aQj h3,aLJ,aQi,hspec 2 ((s.drop p).take (wV (s.drop p))) (wV (s.drop p)) (by rw[hd];exact MD h1 h2 h3)];have hx:(if decide (DI ((s.drop p).findIdx? fun b=> !vA b)<0)=true then some ((s.drop p).length:Int) else some (DI ((s.drop p).findIdx? fun b=> !vA b)))=some (wV (s.drop p):Int):=by
       unfold wV;cases(s.drop p).findIdx? fun b=> !vA b with
       |none=>rw[aQj (by decide)];rfl
       |some k=>rw[aQl (by show¬decide ((k:Int)<0)=true;simp)];rfl
      rw[hx];unfold qZ;rw[aQi,aQj ⟨aQ8 _,by omega,by omega⟩,aQj (by unfold pB;omega),UR];rfl
     ·rw[aQl h3,hspec 0 [] 0 (by rw[hd];exact ME h1 h2 h3)];rfl
 ·have hg':(G (s.drop i)).2=false:=by simpa using hg
  rw[aQj (by rw[hg'];rfl)];unfold t8;rw[aQl hg];dsimp only;rw[hp]
def kS (s:List UInt8) (P:Nat):Int:=(t8 (s.drop P)).1
def xS (s:List UInt8) (P:Nat):List UInt8:=(t8 (s.drop P)).2.1
def fS (s:List UInt8) (P:Nat):Nat:=P+(t8 (s.drop P)).2.2.1
def nS (s:List UInt8) (P:Nat):Nat:=P+(t8 (s.drop P)).2.2.2
theorem s8 {s:List UInt8}{P:Nat}(h:P<=s.length):P<=nS s P/\nS s P<=s.length:=by
 have:=aLD (s.drop P);rw[aQw] at this;unfold nS;omega
theorem wW {p:Prop}{α:Type}{v:α}:p->(some v).isSome=true:=fun _=>rfl
abbrev C4:=List UInt8×(List (List UInt8)×(List qY×(List rG×Unit)))
abbrev R8:=Int×Int×List UInt8×Int×Int×Int×Int×Int
def sP (s:List UInt8) (P:Nat) (a:Int):R8:=((nS s P:Int),kS s P,xS s P,(fS s P:Int),(nS s P:Int),a,0,(P:Int))
section
variable {s:List UInt8}(hsm:s.length<=4000000000) {P:Nat}(hP:P<=s.length) {c:C4}{a e en at0 f t:Int}{k:Int}{x:List UInt8}{ends:List Int}{ids:List (List UInt8×Bool)}
include hsm hP
theorem Q4:s7 (s,(((P:Nat):Int),())) (k,(x,(f,(t,())))) a 0 c (ends,(en,())) ids=some ((nS s P:Int),kS s P,xS s P,(fS s P:Int),(nS s P:Int),t):=by
 unfold s7;dsimp only;rw[aQj (by decide),a6x hsm hP];rfl
omit hsm hP in
theorem Q5 (he:e≠0):s7 (s,(at0,())) (k,(x,(f,(t,())))) a e c (ends,(en,())) ids=some (at0,k,x,f,t,en):=by
 unfold s7;dsimp only;rw[aQl (by simpa using he)]
omit hsm hP in
theorem VE {r1:List UInt8×(Int×Unit)}{code:Int}{r6:List Int×(Int×Unit)}:tM r1 (k,(x,(f,(t,())))) a 0 c r6 code ids=(f,code):=by
 unfold tM;rw[aQj (by decide)]
omit hsm hP in
theorem aLL {r1:List UInt8×(Int×Unit)}{code:Int}{r6:List Int×(Int×Unit)}(he:e≠0):tM r1 (k,(x,(f,(t,())))) a e c r6 code ids=(a,e):=by
 unfold tM;rw[aQl (by simpa using he)]
omit hsm hP in
theorem BX {c':C4}{code:Int}(hc:code≠0):(rE (tM (s,(at0,())) (k,(x,(f,(t,())))) a 0 c (ends,(en,())) code ids) fun r=>
  (s7 (s,(at0,())) (k,(x,(f,(t,())))) r.1 r.2 c' (ends,(en,())) ids).bind fun r'=>some ((r'.1,r'.2.1,r'.2.2.1,r'.2.2.2.1,r'.2.2.2.2.1,r.1,r.2,r'.2.2.2.2.2):R8))=some (at0,k,x,f,t,f,code,en):=by
 unfold rE;rw[VE];dsimp only;rw[Q5 hc];rfl
omit hsm hP in
theorem JQ {c':C4}{code:Int}(he:e≠0):(rE (tM (s,(at0,())) (k,(x,(f,(t,())))) a e c (ends,(en,())) code ids) fun r=>
  (s7 (s,(at0,())) (k,(x,(f,(t,())))) r.1 r.2 c' (ends,(en,())) ids).bind fun r'=>some ((r'.1,r'.2.1,r'.2.2.1,r'.2.2.2.1,r'.2.2.2.2.1,r.1,r.2,r'.2.2.2.2.2):R8))=some (at0,k,x,f,t,a,e,en):=by
 unfold rE;rw[aLL he];dsimp only;rw[Q5 he];rfl
theorem JR {c':C4}:((s7 (s,(((P:Nat):Int),())) (k,(x,(f,(((P:Nat):Int),())))) a 0 c' (ends,(en,())) ids).bind fun r'=>some ((r'.1,r'.2.1,r'.2.2.1,r'.2.2.2.1,r'.2.2.2.2.1,a,0,r'.2.2.2.2.2):R8))=some (sP s P a):=by
 rw[Q4 hsm hP];rfl
omit hsm hP in
theorem VF {c':C4}(he:e≠0):((s7 (s,(at0,())) (k,(x,(f,(t,())))) a e c' (ends,(en,())) ids).bind fun r'=>some ((r'.1,r'.2.1,r'.2.2.1,r'.2.2.2.1,r'.2.2.2.2.1,a,e,r'.2.2.2.2.2):R8))=some (at0,k,x,f,t,a,e,en):=by
 rw[Q5 he];rfl
def sQ (bad dup much:Bool):Int:=if bad=true then 3 else if dup=true then 9 else if much=true then 6 else 0
def tC (s:List UInt8) (P:Nat) (a at0 k:Int) (x:List UInt8) (f t en:Int) (code:Int):R8:=if code=0 then sP s P a else(at0,k,x,f,t,f,code,en)
theorem Q6 {kind:Int}{text:List UInt8}:xI (s,(((P:Nat):Int),())) (k,(x,(f,(((P:Nat):Int),())))) a 0 c (ends,(en,())) kind text ids=some (tC s P a P k x f P en (if k=kind/\x=text then 0 else 3)):=by
 unfold xI tC;dsimp only;by_cases h:k=kind/\x=text
 ·rw[aQl (by simp [h.1,h.2]),JR hsm hP,aQj h,aQj rfl]
 ·rw[aQj (by simp only[decide_true,Bool.true_and,aQO,aRN,aQY];exact Decidable.not_and_iff_or_not.1 h),BX (by decide),aQl h,aQl (by decide)]
omit hsm hP in
theorem VG {kind:Int}{text:List UInt8}(he:e≠0):xI (s,(at0,())) (k,(x,(f,(t,())))) a e c (ends,(en,())) kind text ids=some (at0,k,x,f,t,a,e,en):=by
 unfold xI;dsimp only;rw[aQj (by simp [he]),JQ he]
theorem aLM {kind:Int}:zH (s,(((P:Nat):Int),())) (k,(x,(f,(((P:Nat):Int),())))) a 0 c (ends,(en,())) kind false ids=some (tC s P a P k x f P en (sQ (decide (k≠kind)) false false)):=by
 unfold zH tC sQ;dsimp only;by_cases h:k=kind
 ·rw[aQl (by simp [h]),aQl (by decide),aQl (by decide),JR hsm hP];simp [h]
 ·rw[aQj (by simp [h]),BX (by decide)];simp [h]
omit hsm hP in
theorem aLN {kind:Int}(he:e≠0):zH (s,(at0,())) (k,(x,(f,(t,())))) a e c (ends,(en,())) kind false ids=some (at0,k,x,f,t,a,e,en):=by
 unfold zH;dsimp only;by_cases h:k=kind
 ·rw[aQl (by simp [h]),aQl (by decide),aQl (by decide),VF he]
 ·rw[aQj (by simp [h]),JQ he]
theorem aLO {kind:Int}:zI (s,(((P:Nat):Int),())) (k,(x,(f,(((P:Nat):Int),())))) a 0 c (ends,(en,())) kind false ids=some (tC s P a P k x f P en (sQ (decide (k≠kind)|| !tO x) false false)):=by
 unfold zI tC sQ;dsimp only;rw[a6e,aQj wW];by_cases h:k=kind/\tO x=true
 ·rw[aQl (by simp [h.1,h.2,val]),aQl (by decide),aQl (by decide),JR hsm hP];simp [h.1,h.2]
 ·have hb:(!decide (k=kind)|| !val (some (tO x)))=true:=by
   by_cases h1:k=kind
   ·have h2:tO x=false:=by cases h2:tO x with|true=>exact absurd ⟨h1,h2⟩ h|false=>rfl
    simp [h2,val]
   ·simp [h1]
  have hb2:(decide (k≠kind)|| !tO x)=true:=by simpa[val] using hb
  rw[aQj hb,BX (by decide),hb2];simp
omit hsm hP in
theorem aLP {kind:Int}(he:e≠0):zI (s,(at0,())) (k,(x,(f,(t,())))) a e c (ends,(en,())) kind false ids=some (at0,k,x,f,t,a,e,en):=by
 unfold zI;dsimp only;rw[a6e,aQj wW];by_cases h:(!decide (k=kind)|| !val (some (tO x)))=true
 ·rw[aQj h,JQ he]
 ·rw[aQl h,aQl (by decide),aQl (by decide),VF he]
theorem aLQ {kind:Int}:zJ (s,(((P:Nat):Int),())) (k,(x,(f,(((P:Nat):Int),())))) a 0 c (ends,(en,())) kind false ids=some (tC s P a P k x f P en (sQ (decide (k≠kind)|| !decide (0<=sX x)) false false)):=by
 unfold zJ tC sQ;dsimp only;rw[(UP x).1,aQj wW];have hb2:(!decide (k=kind)|| !val (some (decide (0<=sX x))))=(decide (k≠kind)|| !decide (0<=sX x)):=by simp [val]
 rw[hb2];by_cases h:(decide (k≠kind)|| !decide (0<=sX x))=true
 ·rw[aQj h,BX (by decide),aQj h,aQl (by decide)]
 ·rw[aQl h,aQl (by decide),aQl (by decide),JR hsm hP,aQl h];simp
omit hsm hP in
theorem aLR {kind:Int}(he:e≠0):zJ (s,(at0,())) (k,(x,(f,(t,())))) a e c (ends,(en,())) kind false ids=some (at0,k,x,f,t,a,e,en):=by
 unfold zJ;dsimp only;rw[(UP x).1,aQj wW];by_cases h:(!decide (k=kind)|| !val (some (decide (0<=sX x))))=true
 ·rw[aQj h,JQ he]
 ·rw[aQl h,aQl (by decide),aQl (by decide),VF he]
end
theorem yR {b:Bool}{d m:Bool}(h:b=true):sQ b d m=3:=by unfold sQ;rw[aQj h]
theorem MF {b:Bool}{d m:Bool}(h: ¬b=true) (h2:d=true):sQ b d m=9:=by unfold sQ;rw[aQl h,aQj h2]
theorem MG {b:Bool}{d m:Bool}(h: ¬b=true) (h2: ¬d=true) (h3:m=true):sQ b d m=6:=by unfold sQ;rw[aQl h,aQl h2,aQj h3]
theorem CL {b:Bool}{d m:Bool}(h: ¬b=true) (h2: ¬d=true) (h3: ¬m=true):sQ b d m=0:=by unfold sQ;rw[aQl h,aQl h2,aQl h3]
section
variable {s:List UInt8}(hsm:s.length<=4000000000) {P:Nat}(hP:P<=s.length) {c:C4}{a e en at0 f t:Int}{k:Int}{x:List UInt8}{ends:List Int}{ids:List (List UInt8×Bool)}
 {b9 b10 b11:List UInt8}{b12 b18:List (List UInt8)}{b13:Int×(List qY×Unit)}{b14:Bool}{b21:List (List UInt8×Bool)}
include hsm hP
theorem aLS {kind:Int}{much:Bool}(hfl:pQ b13.2.1):B2 (s,(((P:Nat):Int),())) (k,(x,(f,(((P:Nat):Int),())))) a 0 c (ends,(en,())) kind much ids b9 b10 b11 b12 b13 b14 b18 b21=
  some (tC s P a P k x f P en (sQ (decide (k≠kind)|| !rP x) (b13.2.1.any fun y=>decide (y.1=x)) much)):=by
 unfold B2 LS tC;dsimp only;rw[UO,aQj wW];have hb2:(!decide (k=kind)|| !val (some (rP x)))=(decide (k≠kind)|| !rP x):=by simp [val]
 rw[hb2];by_cases h:(decide (k≠kind)|| !rP x)=true
 ·rw[aQj h,BX (by decide),yR h,aQl (by decide)]
 ·rw[aQl h,aKP _ _ hfl,aQi,aQi,aDZ];by_cases h2:(b13.2.1.any fun y=>decide (y.1=x))=true
  ·rw[aQj h2,BX (by decide),MF h h2,aQl (by decide)]
  ·rw[aQl h2];by_cases h3:much=true
   ·rw[aQj h3,BX (by decide),MG h h2 h3,aQl (by decide)]
   ·rw[aQl h3,JR hsm hP,CL h h2 h3,aQj rfl]
theorem aLT {kind:Int}{much:Bool}(hfl:pQ b18):B3 (s,(((P:Nat):Int),())) (k,(x,(f,(((P:Nat):Int),())))) a 0 c (ends,(en,())) kind much ids b9 b10 b11 b12 b13 b14 b18 b21=
  some (tC s P a P k x f P en (sQ (decide (k≠kind)|| !rP x) (b18.any fun y=>decide (y=x)) much)):=by
 unfold B3 LQ tC;dsimp only;rw[UO,aQj wW];have hb2:(!decide (k=kind)|| !val (some (rP x)))=(decide (k≠kind)|| !rP x):=by simp [val]
 rw[hb2];by_cases h:(decide (k≠kind)|| !rP x)=true
 ·rw[aQj h,BX (by decide),yR h,aQl (by decide)]
 ·rw[aQl h,aKN _ _ hfl,aQi,aQi];by_cases h2:(b18.any fun y=>decide (y=x))=true
  ·rw[aQj h2,BX (by decide),MF h h2,aQl (by decide)]
  ·rw[aQl h2];by_cases h3:much=true
   ·rw[aQj h3,BX (by decide),MG h h2 h3,aQl (by decide)]
   ·rw[aQl h3,JR hsm hP,CL h h2 h3,aQj rfl]
def DJ (x:List UInt8):Bool:= !decide (x=[])&&decide ((x.length:Int)<=200)
theorem aLU {kind:Int}{much:Bool}:zM (s,(((P:Nat):Int),())) (k,(x,(f,(((P:Nat):Int),())))) a 0 c (ends,(en,())) kind much ids=
  some (tC s P a P k x f P en (sQ (decide (k≠kind)|| !DJ x) (rN .str .bool ids x) much)):=by
 unfold zM tC;dsimp only;have hb2:(!decide (k=kind)|| !(!decide (x=[])&&decide ((x.length:Int)<=200)))=(decide (k≠kind)|| !DJ x):=by simp [DJ]
 rw[hb2];by_cases h:(decide (k≠kind)|| !DJ x)=true
 ·rw[aQj h,BX (by decide),yR h,aQl (by decide)]
 ·rw[aQl h];by_cases h2:rN .str .bool ids x=true
  ·rw[aQj h2,BX (by decide),MF h h2,aQl (by decide)]
  ·rw[aQl h2];by_cases h3:much=true
   ·rw[aQj h3,BX (by decide),MG h h2 h3,aQl (by decide)]
   ·rw[aQl h3,JR hsm hP,CL h h2 h3,aQj rfl]
omit hsm hP in
theorem aLV {kind:Int}{much:Bool}(he:e≠0):zM (s,(at0,())) (k,(x,(f,(t,())))) a e c (ends,(en,())) kind much ids=some (at0,k,x,f,t,a,e,en):=by
 unfold zM;dsimp only;by_cases h:(!decide (k=kind)|| !(!decide (x=[])&&decide ((x.length:Int)<=200)))=true
 ·rw[aQj h,JQ he]
 ·rw[aQl h];by_cases h2:rN .str .bool ids x=true
  ·rw[aQj h2,JQ he]
  ·rw[aQl h2];by_cases h3:much=true
   ·rw[aQj h3,JQ he]
   ·rw[aQl h3,VF he]
theorem a6y:zG (s,(((P:Nat):Int),())) (k,(x,(f,(((P:Nat):Int),())))) a 0 c (ends,(en,())) b9 b10 b11 b12 b13 b14 ids b18 b21=
  some (tC s P a P k x f P en (if rN .str .bool b21 x=true then 9 else 0)):=by
 unfold zG tC;dsimp only;by_cases h:rN .str .bool b21 x=true
 ·rw[aQj h,aQj h,aQl (by decide)];unfold rE qZ;rw[VE,aQi];dsimp only;rw[Q5 (by decide)];rfl
 ·rw[aQl h,aQl h,aQj rfl];unfold qZ;rw[aQi];dsimp only;rw[Q4 hsm hP];rfl
theorem VH:xJ (s,(((P:Nat):Int),())) (k,(x,(f,(((P:Nat):Int),())))) a 0 c (ends,(en,())) ids=some (tC s P a P k x f P en (sQ (decide (k≠1)) false false)):=by
 unfold xJ;rw[aLM hsm hP];rfl
omit hsm hP in
theorem VI (he:e≠0):xJ (s,(at0,())) (k,(x,(f,(t,())))) a e c (ends,(en,())) ids=some (at0,k,x,f,t,a,e,en):=by
 unfold xJ;rw[aLN he];rfl
end
def ext {V:Type}(r:R8) (v:V):Int×Int×List UInt8×Int×Int×Int×Int×Int×V:=(r.1,r.2.1,r.2.2.1,r.2.2.2.1,r.2.2.2.2.1,r.2.2.2.2.2.1,r.2.2.2.2.2.2.1,r.2.2.2.2.2.2.2,v)
section
variable {s:List UInt8}(hsm:s.length<=4000000000) {P:Nat}(hP:P<=s.length) {c:C4}{a e en at0 f t:Int}{k:Int}{x:List UInt8}{ends:List Int}{ids:List (List UInt8×Bool)}
 {b9 b10 b11:List UInt8}{b12 b18:List (List UInt8)}{b13:Int×(List qY×Unit)}{b14:Bool}{b21:List (List UInt8×Bool)}
include hsm hP
theorem aLW (hl:b12.length<=1000) (h20:b12.length≠20):xY (s,(((P:Nat):Int),())) (k,(x,(f,(((P:Nat):Int),())))) a 0 c (ends,(en,())) b9 b10 b11 b12 b13 b14 ids b18 b21=
  some (ext (tC s (nS s P) a (nS s P) (kS s P) (xS s P) (fS s P) (nS s P) P (sQ (decide (kS s P≠1)) false false)) (b12++[xS s P])):=by
 unfold xY;dsimp only;rw[aQl (by simp;omega)];unfold qZ;rw[aQi];dsimp only;rw[Q4 hsm hP,aQi];dsimp only;rw[VH hsm (s8 hP).2,aQi,aQj (by simp;omega)];rfl
omit hsm hP in
theorem aLX (h20:b12.length=20): ∃y,xY (s,(at0,())) (k,(x,(f,(t,())))) a 0 c (ends,(en,())) b9 b10 b11 b12 b13 b14 ids b18 b21=some (ext (at0,k,x,f,t,f,6,en) (b12++[y])):=by
 refine⟨x,?_⟩;unfold xY;dsimp only;rw[aQj (by simp;omega)];unfold qZ rE;rw[VE,aQi];dsimp only;rw[Q5 (by decide),aQi];dsimp only;rw[VI (by decide),aQi,aQj (by simp;omega)];rfl
theorem aLY (hl:b13.2.1.length<=1000): ∃v,zN (s,(((P:Nat):Int),())) (k,(x,(f,(((P:Nat):Int),())))) a 0 c (ends,(en,())) b9 b10 b11 b12 b13 b14 ids b18 b21=
  some (ext (if sQ (decide (kS s P≠1)|| !rP (xS s P)) (b13.2.1.any fun y=>decide (y.1=xS s P)) (decide (b13.2.1.length=20))=0 then tC s (nS s (nS s P)) a (nS s (nS s P)) (kS s (nS s P)) (xS s (nS s P)) (fS s (nS s P)) (nS s (nS s P)) (nS s P) (sQ (decide (kS s (nS s P)≠1)) false false)
   else((nS s P:Int),kS s P,xS s P,(fS s P:Int),(nS s P:Int),(fS s P:Int),sQ (decide (kS s P≠1)|| !rP (xS s P)) (b13.2.1.any fun y=>decide (y.1=xS s P)) (decide (b13.2.1.length=20)),(P:Int))) (AE b13.2.1 (xS s P) v))/\
  (sQ (decide (kS s P≠1)|| !rP (xS s P)) (b13.2.1.any fun y=>decide (y.1=xS s P)) (decide (b13.2.1.length=20))=0->v=xS s (nS s P)):=by
 have hfit:pQ b13.2.1:=by unfold pQ;omega
 have hQ:=(s8 hP).2;have hR:=(s8 hQ).2;have hd:decide ((b13.2.1.length:Int)=(20:Int))=decide (b13.2.1.length=20):=by
  rw[aRr];simp;omega
 unfold zN;rw[Q4 hsm hP,aQi];dsimp only;rw[hd,aLS hsm hQ hfit,aQi];generalize sQ (decide (kS s P≠1)|| !rP (xS s P)) (b13.2.1.any fun y=>decide (y.1=xS s P)) (decide (b13.2.1.length=20))=code
 unfold tC;by_cases hc:code=0
 ·refine⟨xS s (nS s P),?_,fun _=>rfl⟩;rw[aQj hc,aQj hc];unfold sP;dsimp only;rw[VH hsm hR,aQi,aD3 _ _ _ hfit];rfl
 ·refine⟨xS s P,?_,fun h=>absurd h hc⟩;rw[aQl hc,aQl hc];dsimp only;rw[VI hc,aQi,aD3 _ _ _ hfit];rfl
theorem aLZ: ∃v,AB (s,(((P:Nat):Int),())) (k,(x,(f,(((P:Nat):Int),())))) a 0 c (ends,(en,())) b9 b10 b11 b12 b13 b14 ids b18 b21=
  some (ext (if rN .str .bool b21 x=true then((P:Int),k,x,f,(P:Int),f,9,en) else tC s (nS s P) a (nS s P) (kS s P) (xS s P) (fS s P) (nS s P) P (sQ (decide (kS s P≠1)) false false)) v)/\(¬rN .str .bool b21 x=true->v=xS s P):=by
 have hQ:=(s8 hP).2;unfold AB;rw[a6y hsm hP,aQi];unfold tC;by_cases h:rN .str .bool b21 x=true
 ·refine⟨x,?_,fun h'=>absurd h h'⟩;rw[aQj h,aQl (by decide),aQj h];dsimp only;rw[VI (by decide),aQi];rfl
 ·refine⟨xS s P,?_,fun _=>rfl⟩;rw[aQl h,aQj rfl,aQl h];unfold sP;dsimp only;rw[VH hsm hQ,aQi];rfl
theorem aL0: ∃v,AC (s,(((P:Nat):Int),())) (k,(x,(f,(((P:Nat):Int),())))) a 0 c (ends,(en,())) b9 b10 b11 b12 b13 b14 ids b18 b21=
  some (ext (if rN .str .bool b21 x=true then((P:Int),k,x,f,(P:Int),f,9,en) else tC s (nS s P) a (nS s P) (kS s P) (xS s P) (fS s P) (nS s P) P (sQ (decide (kS s P≠1)) false false)) v)/\(¬rN .str .bool b21 x=true->v=xS s P):=by
 have hQ:=(s8 hP).2;unfold AC;rw[a6y hsm hP,aQi];unfold tC;by_cases h:rN .str .bool b21 x=true
 ·refine⟨x,?_,fun h'=>absurd h h'⟩;rw[aQj h,aQl (by decide),aQj h];dsimp only;rw[VI (by decide),aQi];rfl
 ·refine⟨xS s P,?_,fun _=>rfl⟩;rw[aQl h,aQj rfl,aQl h];unfold sP;dsimp only;rw[VH hsm hQ,aQi];rfl
theorem aL1: ∃v,AA (s,(((P:Nat):Int),())) (k,(x,(f,(((P:Nat):Int),())))) a 0 c (ends,(en,())) b9 b10 b11 b12 b13 b14 ids b18 b21=
  some (ext (if rN .str .bool b21 x=true then((P:Int),k,x,f,(P:Int),f,9,en) else tC s (nS s P) a (nS s P) (kS s P) (xS s P) (fS s P) (nS s P) P (sQ (decide (kS s P≠2)|| !decide (0<=sX (xS s P))) false false)) v)/\(¬rN .str .bool b21 x=true->v=max 0 (sX (xS s P))):=by
 have hQ:=(s8 hP).2;unfold AA;rw[a6y hsm hP,aQi];unfold tC;by_cases h:rN .str .bool b21 x=true
 ·refine⟨max 0 (sX x),?_,fun h'=>absurd h h'⟩;rw[aQj h,aQl (by decide),aQj h];dsimp only;rw[aLR (by decide),aQi];show (BR vY x).bind _=_;rw[(UP x).2];rfl
 ·refine⟨max 0 (sX (xS s P)),?_,fun _=>rfl⟩;rw[aQl h,aQj rfl,aQl h];unfold sP;dsimp only;rw[aLQ hsm hQ,aQi];show (BR vY (xS s P)).bind _=_;rw[(UP (xS s P)).2];rfl
theorem S2 (hl:b18.length<=1000):yP (s,(((P:Nat):Int),())) (k,(x,(f,(((P:Nat):Int),())))) a 0 c (ends,(en,())) b9 b10 b11 b12 b13 b14 ids b18 b21=
  some (ext (tC s (nS s P) a (nS s P) (kS s P) (xS s P) (fS s P) (nS s P) P (sQ (decide (kS s P≠2)|| !rP (xS s P)) (b18.any fun y=>decide (y=xS s P)) (decide (b18.length=20)))) (b18++[xS s P])):=by
 have hfit:pQ b18:=by unfold pQ;omega
 have hQ:=(s8 hP).2;have hd:decide ((((b18.length):Nat):Int)=(20:Int))=decide (b18.length=20):=by
  rw[aRr];simp;omega
 unfold yP;rw[Q4 hsm hP,aQi];dsimp only;rw[hd,aLT hsm hQ hfit,aQi,aQj (by simp;omega)];rfl
end
theorem AG {k j:Int}(h0:j≠0) (h4:j≠4):kR k=j↔k=j:=by
 unfold kR;split
 ·rename_i h;subst h;constructor
  ·intro h;exact absurd h.symm h0
  ·intro h;exact absurd h.symm h4
 ·rfl
abbrev E7:=Int×Int×Int×Int×List UInt8×Int×Int
def Q7 (s:List UInt8) (P:Nat) (bad:Int) (ok:Bool):E7:=
 if ok=true then((nS s P:Int),bad,0,kR (kS s P),xS s P,(fS s P:Int),(nS s P:Int)) else((P:Int),(fS s P:Int),3,kR (kS s P),xS s P,(fS s P:Int),(nS s P:Int))
theorem w4 {s:List UInt8}{P:Nat}{bad:Int}{ok:Bool}(h:ok=true):Q7 s P bad ok=((nS s P:Int),bad,0,kR (kS s P),xS s P,(fS s P:Int),(nS s P:Int)):=aQj h
theorem yS {s:List UInt8}{P:Nat}{bad:Int}{ok:Bool}(h: ¬ok=true):Q7 s P bad ok=((P:Int),(fS s P:Int),3,kR (kS s P),xS s P,(fS s P:Int),(nS s P:Int)):=aQl h
section
variable {s:List UInt8}(hsm:s.length<=4000000000) {P:Nat}(hP:P<=s.length) {c:C4}{bad e:Int}{ends:List Int}{kind:Int}{text:List UInt8}
include hsm hP
theorem Q8:LX s (P:Int)=some (kR (kS s P),xS s P,(fS s P:Int),(nS s P:Int)):=aLH hsm hP
omit hsm hP in
theorem wH {k:Int}{x:List UInt8}{f t:Int}{a:Int}{code:Int}:xH (s,(a,(bad,(0,(c,(ends,())))))) (k,(x,(f,(t,())))) code=(f,code):=by
 unfold xH;exact aQj (show decide ((0:Int)=0)=true from rfl)
theorem EM:vM (s,((P:Int),(bad,(0,(c,(ends,())))))) kind text=some (Q7 s P bad (decide (kR (kS s P)=kind)&&(decide (text=[])||decide (xS s P=text)))):=by
 unfold vM Q7;dsimp only;rw[Q8 hsm hP,aQi];dsimp only;rw[aQl (show¬(!decide ((0:Int)=0))=true from by decide)];by_cases h:(decide (kR (kS s P)=kind)&&(decide (text=[])||decide (xS s P=text)))=true
 ·rw[aQj h,aQl];simp only[aQr,aRg,aQq] at h;simp only[aRg,aQr,aQO,aQY,not_or,not_and,Decidable.not_not];refine⟨h.1,fun ht=> ?_⟩;rcases h.2 with h2|h2
  ·exact absurd h2 ht
  ·exact h2
 ·rw[aQl h,aQj]
  ·unfold rE;rw[wH]
  ·simp only[aQr,aRg,aQq,not_and,not_or] at h;simp only[aRg,aQr,aQO,aQY];by_cases hk:kR (kS s P)=kind
   ·exact .inr (h hk)
   ·exact .inl hk
theorem Q9 (he:e≠0):vM (s,((P:Int),(bad,(e,(c,(ends,())))))) kind text=some ((P:Int),bad,e,kR (kS s P),xS s P,(fS s P:Int),(nS s P:Int)):=by
 unfold vM;dsimp only;rw[Q8 hsm hP,aQi];dsimp only;rw[aQj (by simpa using he)]
theorem BY {j:Int}(h0:j≠0) (h4:j≠4):vM (s,((P:Int),(bad,(0,(c,(ends,())))))) j []=some (Q7 s P bad (decide (kS s P=j))):=by
 rw[EM hsm hP];congr 2;rw[aRr];simp [AG h0 h4]
def EN (s:List UInt8) (P:Nat) (bad:Int) (fl:List qY):Int×Int×Int×List qY:=
 if kS s P≠1 then((P:Int),(fS s P:Int),3,fl)
 else if rP (xS s P)=false then((nS s P:Int),(fS s P:Int),3,fl)
 else if (fl.any fun y=>decide (y.1=xS s P))=true then((nS s P:Int),(fS s P:Int),9,fl)
 else if 20<=fl.length then((nS s P:Int),(fS s P:Int),6,fl)
 else if kS s (nS s P)≠1 then((nS s P:Int),(fS s (nS s P):Int),3,AE fl (xS s P) (xS s (nS s P)))
 else((nS s (nS s P):Int),bad,0,AE fl (xS s P) (xS s (nS s P)))
theorem MH:pQ (xS s P):=by
 have h1:=hsm;have:(xS s P).length<=4000000000:=by
  unfold xS t8;split
  ·dsimp only;generalize hr:(s.drop P).drop (G (s.drop P)).1=r;have hrl:r.length<=s.length:=by rw[<-hr,aQw,aQw];omega
   unfold uK;split
   ·simp
   ·rename_i b t;simp only[aQp] at hrl;split
    ·simp
    ·split
     ·unfold xO;cases he:sA 34 t with
      |none=>simp
      |some n=>
       dsimp only;split
       ·simp
       ·have:=a6w 3 (t.take n);rw[aQM] at this;show (y6 3 (t.take n)).1.length<=_;omega
     ·split
      ·show ((b::t).take _).length<=_;rw[aQM];simp only[aQp];omega
      ·simp
  ·simp
 unfold pQ;omega
theorem aL2 {i:rG}(hl:i.2.2.2.2.2.2.1.length<=1000):UC (s,((P:Int),(bad,(0,(c,(ends,())))))) i=some (EN s P bad i.2.2.2.2.2.2.1):=by
 have hfit:pQ i.2.2.2.2.2.2.1:=by unfold pQ;omega
 have hQ:=(s8 hP).2;unfold UC EN;rw[BY hsm hP (by decide) (by decide),aQi];by_cases h1:kS s P=1
 ·rw[w4 (by simpa using h1),aQl (show¬kS s P≠1 from by simpa using h1)];dsimp only;rw[aQl (show¬(!decide ((0:Int)=0))=true from by decide),aKO _ _ hfit,aQi,aDU _ (MH hsm hP),aQi];by_cases h2:rP (xS s P)=true
  ·rw[aQl (show¬(!rP (xS s P))=true from by simp [h2]),aQl (show¬rP (xS s P)=false from by simp [h2]),aDZ];by_cases h3:(i.2.2.2.2.2.2.1.any fun y=>decide (y.1=xS s P))=true
   ·rw[aQj h3,aQj h3];unfold rE;rw[wH]
   ·rw[aQl h3,aQl h3];by_cases h4:20<=i.2.2.2.2.2.2.1.length
    ·rw[aQj (show decide ((20:Int)<=(i.2.2.2.2.2.2.1.length:Int))=true from by simp;omega),aQj h4];unfold rE;rw[wH]
    ·rw[aQl (show¬decide ((20:Int)<=(i.2.2.2.2.2.2.1.length:Int))=true from by simp;omega),aQl h4,BY hsm hQ (by decide) (by decide),aQi];by_cases h5:kS s (nS s P)=1
     ·rw[w4 (by simpa using h5),aQl (show¬kS s (nS s P)≠1 from by simpa using h5)];dsimp only;rw[aD5 _ _ _ hfit,aQi]
     ·rw[yS (by simpa using h5),aQj h5];dsimp only;rw[aD5 _ _ _ hfit,aQi]
  ·have h2':rP (xS s P)=false:=by simpa using h2
   rw[aQj (by simp [h2']),aQj h2'];unfold rE;rw[wH]
 ·rw[yS (by simpa using h1),aQj h1];dsimp only;rw[aQj (show (!decide ((3:Int)=0))=true from by decide)]
def wX (l:List (List UInt8)) (x:List UInt8):Nat:=(l.findIdx? fun y=> !Op.bytesLess y x).getD l.length
def DK (l:List (List UInt8)) (x:List UInt8):List (List UInt8):=l.take (wX l x)++[x]++l.drop (wX l x)
omit hsm hP in
theorem aL3 (l:List (List UInt8)) (x:List UInt8):wX l x<=l.length:=by
 unfold wX;cases h:l.findIdx? fun y=> !Op.bytesLess y x with
 |none=>exact aQF _
 |some k=>exact Nat.le_of_lt (aQX.1 h).1
def EO (s:List UInt8) (P:Nat) (bad:Int) (fl:List (List UInt8)):Int×Int×Int×List (List UInt8):=
 if kS s P≠2 then((P:Int),(fS s P:Int),3,fl)
 else if rP (xS s P)=false then((nS s P:Int),(fS s P:Int),3,fl)
 else if (fl.any fun y=>decide (y=xS s P))=true then((nS s P:Int),(fS s P:Int),9,fl)
 else if 20<=fl.length then((nS s P:Int),(fS s P:Int),6,fl)
 else((nS s P:Int),bad,0,DK fl (xS s P))
theorem aL4 {i:rG}(hl:i.2.2.2.2.1.length<=1000):UE (s,((P:Int),(bad,(0,(c,(ends,())))))) i=some (EO s P bad i.2.2.2.2.1):=by
 have hfit:pQ i.2.2.2.2.1:=by unfold pQ;omega
 unfold UE EO;rw[BY hsm hP (by decide) (by decide),aQi];by_cases h1:kS s P=2
 ·rw[w4 (by simpa using h1),aQl (show¬kS s P≠2 from by simpa using h1)];dsimp only;rw[aQl (show¬(!decide ((0:Int)=0))=true from by decide),aDU _ (MH hsm hP),aQi];by_cases h2:rP (xS s P)=true
  ·rw[aQl (show¬(!rP (xS s P))=true from by simp [h2]),aQl (show¬rP (xS s P)=false from by simp [h2]),aKM _ _ hfit,aQi];by_cases h3:(i.2.2.2.2.1.any fun y=>decide (y=xS s P))=true
   ·rw[aQj h3,aQj h3];unfold rE;rw[wH]
   ·rw[aQl h3,aQl h3];by_cases h4:20<=i.2.2.2.2.1.length
    ·rw[aQj (show decide ((20:Int)<=(i.2.2.2.2.1.length:Int))=true from by simp;omega),aQj h4];unfold rE;rw[wH]
    ·rw[aQl (show¬decide ((20:Int)<=(i.2.2.2.2.1.length:Int))=true from by simp;omega),aQl h4];have hk:=aL3 i.2.2.2.2.1 (xS s P);have h2:=aD4 (f:=UD i ((nS s P:Int),bad,0,kR (kS s P),xS s P,(fS s P:Int),(nS s P:Int))) (l:=i.2.2.2.2.1) (fun y=>Op.bytesLess y (xS s P)) (fun j h=>by
      unfold UD;rw[aQj (fun _=>rT h),zY (t:= .str) h,tH h,Bool.true_and,aQj (sD (by omega))]) (by
      unfold UD;have hF:decide ((i.2.2.2.2.1.length:Int)<(i.2.2.2.2.1.length:Int))=false:=by simp
      rw[hF,aQj (fun h=>by simp at h),aSe,aQl (by decide)])
     have hins:(i.2.2.2.2.1.findIdx? fun y=> !Op.bytesLess y (xS s P)).getD i.2.2.2.2.1.length=wX i.2.2.2.2.1 (xS s P):=rfl;rw[hins] at h2;rw[h2];unfold qZ;rw[aQi,aQj ⟨aQ8 _,by omega,by omega⟩,UR,EJ,aQj (by simp;omega),aQj (by simp;omega),aQj ⟨by omega,by omega,aQ8 _⟩,aQj (by simp;omega)];simp [DK]
  ·have h2':rP (xS s P)=false:=by simpa using h2
   rw[aQj (by simp [h2']),aQj h2'];unfold rE;rw[wH]
 ·rw[yS (by simpa using h1),aQj h1];dsimp only;rw[aQj (show (!decide ((3:Int)=0))=true from by decide)]
end
abbrev wY:List UInt8:=[99,111,109,109,101,110,116]
abbrev yT:List UInt8:=[102,105,101,108,100]
abbrev CM:List UInt8:=[102,108,97,103]
abbrev sR:List UInt8:=[115,111,117,114,99,101]
abbrev sS:List UInt8:=[116,97,114,103,101,116]
abbrev tD:List UInt8:=[115,116,97,116,101]
theorem JS {x w:List UInt8}(h:x=w):decide (x=w)=true:=aRs h
theorem xP {x w:List UInt8}(h:x≠w): ¬decide (x=w)=true:=by simp [h]
section
variable {s:List UInt8}(hsm:s.length<=4000000000) {P:Nat}(hP:P<=s.length) {c:C4}{bad f t:Int}{ends:List Int}{k:Int}{x:List UInt8}
 {i1 sr tg:List UInt8}{cm fg:List (List UInt8)}{st:Int}{fd:List qY}{d1 d2 d3 hd:Bool}
include hsm hP
theorem aEL (hx:x=wY) (h20:20<=cm.length):A9 (s,((P:Int),(bad,(0,(c,(ends,())))))) (i1,(sr,(tg,(cm,(fg,(st,(fd,()))))))) (d1,(d2,(d3,()))) (k,(x,(f,(t,())))) hd=
  some ((P:Int),f,6,sr,tg,cm,fg,st,fd,d1,d2,d3):=by
 unfold A9;dsimp only;rw[aQj (JS hx),aQj (show decide ((20:Int)<=(cm.length:Int))=true from by simp;omega)];unfold rE;rw[wH]
theorem a6z (hx:x=wY) (h20: ¬20<=cm.length):A9 (s,((P:Int),(bad,(0,(c,(ends,())))))) (i1,(sr,(tg,(cm,(fg,(st,(fd,()))))))) (d1,(d2,(d3,()))) (k,(x,(f,(t,())))) hd=
  some (if kS s P=1 then((nS s P:Int),bad,0,sr,tg,cm++[xS s P],fg,st,fd,d1,d2,d3) else((P:Int),(fS s P:Int),3,sr,tg,cm++[xS s P],fg,st,fd,d1,d2,d3)):=by
 unfold A9;dsimp only;rw[aQj (JS hx),aQl (show¬decide ((20:Int)<=(cm.length:Int))=true from by simp;omega)];rw[BY hsm hP (by decide) (by decide),aQi,aQj (by simp;omega),aQj (by simp;omega)];by_cases h1:kS s P=1
 ·rw[w4 (by simpa using h1),aQj h1];rfl
 ·rw[yS (by simpa using h1),aQl h1];rfl
theorem a6A (hx:x=yT) (hl:fd.length<=1000):A9 (s,((P:Int),(bad,(0,(c,(ends,())))))) (i1,(sr,(tg,(cm,(fg,(st,(fd,()))))))) (d1,(d2,(d3,()))) (k,(x,(f,(t,())))) hd=
  some ((EN s P bad fd).1,(EN s P bad fd).2.1,(EN s P bad fd).2.2.1,sr,tg,cm,fg,st,(EN s P bad fd).2.2.2,d1,d2,d3):=by
 unfold A9;dsimp only;rw[aQl (xP (by rw[hx];decide)),aQj (JS hx),aL2 hsm hP (i:=(i1,(sr,(tg,(cm,(fg,(st,(fd,())))))))) hl,aQi]
theorem aEM (h1:x≠wY) (h2:x≠yT):A9 (s,((P:Int),(bad,(0,(c,(ends,())))))) (i1,(sr,(tg,(cm,(fg,(st,(fd,()))))))) (d1,(d2,(d3,()))) (k,(x,(f,(t,())))) true=
  some ((P:Int),f,3,sr,tg,cm,fg,st,fd,d1,d2,d3):=by
 unfold A9;dsimp only;rw[aQl (xP h1),aQl (xP h2),aQj rfl];unfold rE;rw[wH]
theorem a6B (hx:x=CM) (hl:fg.length<=1000):A9 (s,((P:Int),(bad,(0,(c,(ends,())))))) (i1,(sr,(tg,(cm,(fg,(st,(fd,()))))))) (d1,(d2,(d3,()))) (k,(x,(f,(t,())))) false=
  some ((EO s P bad fg).1,(EO s P bad fg).2.1,(EO s P bad fg).2.2.1,sr,tg,cm,(EO s P bad fg).2.2.2,st,fd,d1,d2,d3):=by
 unfold A9;dsimp only;rw[aQl (xP (by rw[hx];decide)),aQl (xP (by rw[hx];decide)),aQl aSy,aQj (JS hx),aL4 hsm hP (i:=(i1,(sr,(tg,(cm,(fg,(st,(fd,())))))))) hl,aQi]
theorem aL5:(if (decide (x=sR)&&d1)=true then some (decide (x=sR)&&d1) else if (decide (x=sS)&&d2)=true then some (decide (x=sS)&&d2) else some (decide (x=tD)&&d3))=some ((decide (x=sR)&&d1)||(decide (x=sS)&&d2)||(decide (x=tD)&&d3)):=by
 cases(decide (x=sR)&&d1)<;>cases(decide (x=sS)&&d2)<;>rfl
theorem HK (h1:x≠wY) (h2:x≠yT) (h3:x≠CM):A9 (s,((P:Int),(bad,(0,(c,(ends,())))))) (i1,(sr,(tg,(cm,(fg,(st,(fd,()))))))) (d1,(d2,(d3,()))) (k,(x,(f,(t,())))) false=
  some (if ((decide (x=sR)&&d1)||(decide (x=sS)&&d2)||(decide (x=tD)&&d3))=true then((P:Int),f,9,sr,tg,cm,fg,st,fd,d1,d2,d3)
   else if x=sR then(if kS s P=1 then((nS s P:Int),bad,0,xS s P,tg,cm,fg,st,fd,true,d2,d3) else((P:Int),(fS s P:Int),3,xS s P,tg,cm,fg,st,fd,true,d2,d3))
   else if x=sS then(if kS s P=1 then((nS s P:Int),bad,0,sr,xS s P,cm,fg,st,fd,d1,true,d3) else((P:Int),(fS s P:Int),3,sr,xS s P,cm,fg,st,fd,d1,true,d3))
   else if x=tD then(if kS s P=2 then(if sX (xS s P)<0 then((nS s P:Int),(fS s P:Int),3,sr,tg,cm,fg,sX (xS s P),fd,d1,d2,true) else((nS s P:Int),bad,0,sr,tg,cm,fg,sX (xS s P),fd,d1,d2,true)) else((P:Int),(fS s P:Int),3,sr,tg,cm,fg,sX (xS s P),fd,d1,d2,true))
   else((P:Int),f,3,sr,tg,cm,fg,st,fd,d1,d2,d3)):=by
 unfold A9;dsimp only;rw[aQl (xP h1),aQl (xP h2),aQl aSy,aQl (xP h3)];unfold qZ;rw[show (if (decide (x=([115,111,117,114,99,101]:List UInt8))&&d1)=true then some (decide (x=([115,111,117,114,99,101]:List UInt8))&&d1) else if (decide (x=([116,97,114,103,101,116]:List UInt8))&&d2)=true then some (decide (x=([116,97,114,103,101,116]:List UInt8))&&d2) else some (decide (x=([115,116,97,116,101]:List UInt8))&&d3))=some ((decide (x=sR)&&d1)||(decide (x=sS)&&d2)||(decide (x=tD)&&d3)) from aL5 hsm hP,aQi]
 by_cases hd:((decide (x=sR)&&d1)||(decide (x=sS)&&d2)||(decide (x=tD)&&d3))=true
 ·rw[aQj hd,aQj hd];unfold rE;rw[wH]
 ·rw[aQl hd,aQl hd];by_cases hs:x=sR
  ·rw[aQj (JS hs),aQj hs,BY hsm hP (by decide) (by decide),aQi];by_cases h1:kS s P=1
   ·rw[w4 (by simpa using h1),aQj h1]
   ·rw[yS (by simpa using h1),aQl h1]
  ·rw[aQl (xP hs),aQl hs];by_cases ht:x=sS
   ·rw[aQj (JS ht),aQj ht,BY hsm hP (by decide) (by decide),aQi];by_cases h1:kS s P=1
    ·rw[w4 (by simpa using h1),aQj h1]
    ·rw[yS (by simpa using h1),aQl h1]
   ·rw[aQl (xP ht),aQl ht];by_cases ha:x=tD
    ·rw[aQj (JS ha),aQj ha,BY hsm hP (by decide) (by decide),aQi];by_cases h1:kS s P=2
     ·rw[w4 (by simpa using h1),aQj h1];dsimp only;rw[aDY,aQj wW];by_cases h6:sX (xS s P)<0
      ·rw[aQj (show (decide ((0:Int)=0)&&decide (val (some (sX (xS s P)))<0))=true from aRs (p:=sX (xS s P)<0) h6),aQj h6];unfold rE;rw[wH];rfl
      ·rw[aQl (show¬(decide ((0:Int)=0)&&decide (val (some (sX (xS s P)))<0))=true from fun h=>h6 (aRa (p:=sX (xS s P)<0) h)),aQl h6];rfl
     ·rw[yS (by simpa using h1),aQl h1];dsimp only;rw[aDY,aQj wW,aQl (show¬(decide ((3:Int)=0)&&decide (val (some (sX (xS s P)))<0))=true from by simp)];rfl
    ·rw[aQl (xP ha),aQl ha];unfold rE;rw[wH]
end
section
variable {a b c:List UInt8}{d g:List (List UInt8)}{e:Int×(List qY×Unit)}{en:Bool}{m:List (List UInt8×Bool)}
theorem VJ:wL .str .fn (wF a b c d e en g m) wY=true/\rN .str .fn (wF a b c d e en g m) wY=some 213:=by
 cases en<;>exact⟨rfl,rfl⟩
theorem aEN:wL .str .fn (wF a b c d e en g m) yT=true/\rN .str .fn (wF a b c d e en g m) yT=some 214:=by
 cases en<;>exact⟨rfl,rfl⟩
theorem aEO:wL .str .fn (wF a b c d e true g m) sR=true/\rN .str .fn (wF a b c d e true g m) sR=some 215:=⟨rfl,rfl⟩
theorem aEP:wL .str .fn (wF a b c d e true g m) sS=true/\rN .str .fn (wF a b c d e true g m) sS=some 216:=⟨rfl,rfl⟩
theorem aEQ:wL .str .fn (wF a b c d e true g m) tD=true/\rN .str .fn (wF a b c d e true g m) tD=some 217:=⟨rfl,rfl⟩
theorem aER:wL .str .fn (wF a b c d e true g m) CM=true/\rN .str .fn (wF a b c d e true g m) CM=some 218:=⟨rfl,rfl⟩
end
end Go.Proofs.YtbbpilohihldiaaGreatDoor
namespace Go.Proofs.YtbbpilohihldiaaGreatDoor
open Vc
theorem DL {v:Ty}(a b:List UInt8) (y:v.den): ∀l:List (List UInt8×v.den),rN .str v (sG .str v a y l) b=if b=a then y else rN .str v l b
 |[]=>by
  show (if decide (b=a)=true then y else v.zero)=if b=a then y else v.zero;by_cases h:b=a<;>simp [h]
 |(x,z)::r=>by
  have ih:=DL a b y r;show rN .str v (if decide (a=x)=true then(a,y)::r else(x,z)::sG .str v a y r) b=if b=a then y else(if decide (b=x)=true then z else rN .str v r b);by_cases h:a=x
  ·rw[aQj (aRs h)];show (if decide (b=a)=true then y else rN .str v r b)=_;by_cases hb:b=a
   ·rw[aQj (aRs hb),aQj hb]
   ·rw[aQl (by simpa using hb),aQl hb,aQl (by rw[<-h];simpa using hb)]
  ·rw[aQl (by simpa using h)];show (if decide (b=x)=true then z else rN .str v (sG .str v a y r) b)=_;rw[ih];by_cases hb:b=a
   ·rw[aQj hb,aQj hb,aQl (by rw[hb];simpa using h)]
   ·rw[aQl hb,aQl hb]
section
variable {a b c:List UInt8}{d g:List (List UInt8)}{e:Int×(List qY×Unit)}{en:Bool}{m:List (List UInt8×Bool)}{x:List UInt8}
theorem aL6 (h1:x≠wY) (h2:x≠yT):wL .str .fn (wF a b c d e false g m) x=false:=by
 show (if decide (x=wY)=true then true else if decide (x=yT)=true then true else false)=false;rw[aQl (xP h1),aQl (xP h2)]
theorem aL7 (h1:x≠wY) (h2:x≠yT) (h3:x≠sR) (h4:x≠sS) (h5:x≠tD) (h6:x≠CM):wL .str .fn (wF a b c d e true g m) x=false:=by
 show (if decide (x=wY)=true then true else if decide (x=yT)=true then true else if decide (x=sR)=true then true else if decide (x=sS)=true then true else if decide (x=tD)=true then true else if decide (x=CM)=true then true else false)=false;rw[aQl (xP h1),aQl (xP h2),aQl (xP h3),aQl (xP h4),aQl (xP h5),aQl (xP h6)]
end
abbrev HL:=Int×Int×List UInt8×Int×Int×Int×Int×Int×List UInt8×List UInt8×List (List UInt8)×Int×List qY×List (List UInt8)×List (List UInt8×Bool)
def rV (r:R8) (sr tg:List UInt8) (cm:List (List UInt8)) (st:Int) (fd:List qY) (l:List (List UInt8)) (m:List (List UInt8×Bool)):HL:=
 (r.1,r.2.1,r.2.2.1,r.2.2.2.1,r.2.2.2.2.1,r.2.2.2.2.2.1,r.2.2.2.2.2.2.1,r.2.2.2.2.2.2.2,sr,tg,cm,st,fd,l,m)
section
variable {s:List UInt8}(hsm:s.length<=4000000000) {P:Nat}(hP:P<=s.length) {c:C4}{a en0 at0:Int}{ends:List Int}{ids:List (List UInt8×Bool)}
 {sr tg:List UInt8}{cm l:List (List UInt8)}{st:Int}{fd:List qY}{m:List (List UInt8×Bool)}{hd:Bool}
include hsm hP
omit hsm hP in
theorem HN (hk:kS s P=2):(decide ((0:Int)=0)&&decide (kS s P=2))=true:=by simp [hk]
theorem aL8 (hk:kS s P=2) (hx:xS s P=wY) (hl:cm.length<=1000) (h20:cm.length≠20):vD (s,(at0,())) c (ends,(en0,())) hd ids (rV (sP s P a) sr tg cm st fd l m)=
  some (.inl (rV (tC s (nS s (nS s P)) a (nS s (nS s P)) (kS s (nS s P)) (xS s (nS s P)) (fS s (nS s P)) (nS s (nS s P)) (nS s P) (sQ (decide (kS s (nS s P)≠1)) false false)) sr tg (cm++[xS s (nS s P)]) st fd l m)):=by
 have hQ:=(s8 hP).2;unfold vD rV sP;dsimp only;rw[aQj (HN hk),hx,aQl (by rw[VJ.1];decide)];unfold rE;rw[VJ.2];dsimp only;rw[aQj rfl,aLW hsm hQ hl h20,aQi];rfl
theorem aL9 (hk:kS s P=2) (hx:xS s P=wY) (h20:cm.length=20): ∃y,vD (s,(at0,())) c (ends,(en0,())) hd ids (rV (sP s P a) sr tg cm st fd l m)=
  some (.inl (rV ((nS s P:Int),kS s P,wY,(fS s P:Int),(nS s P:Int),(fS s P:Int),6,(P:Int)) sr tg (cm++[y]) st fd l m)):=by
 have hQ:=(s8 hP).2;unfold vD rV sP;dsimp only;rw[aQj (HN hk),hx,aQl (by rw[VJ.1];decide)];unfold rE;rw[VJ.2];dsimp only;rw[aQj rfl];obtain⟨y,hy⟩:=aLX (c:=(c.1,(c.2.1,(c.2.2.1,(c.2.2.2.1,()))))) (a:=a) (en:=(P:Int)) (at0:=(nS s P:Int)) (f:=(fS s P:Int)) (t:=(nS s P:Int)) (k:=kS s P) (x:=wY) (ends:=ends) (ids:=ids) (b9:=[]) (b10:=sr) (b11:=tg) (b12:=cm) (b18:=l) (b13:=(st,(fd,()))) (b14:=hd) (b21:=m) h20;rw[hy,aQi];exact⟨y,rfl⟩
theorem aMa (hk:kS s P=2) (hx:xS s P=yT) (hl:fd.length<=1000): ∃v,vD (s,(at0,())) c (ends,(en0,())) hd ids (rV (sP s P a) sr tg cm st fd l m)=
  some (.inl (rV (if (sQ (decide (kS s (nS s P)≠1)|| !rP (xS s (nS s P))) (fd.any fun y=>decide (y.1=xS s (nS s P))) (decide (fd.length=20)))=0 then tC s (nS s (nS s (nS s P))) a (nS s (nS s (nS s P))) (kS s (nS s (nS s P))) (xS s (nS s (nS s P))) (fS s (nS s (nS s P))) (nS s (nS s (nS s P))) (nS s (nS s P)) (sQ (decide (kS s (nS s (nS s P))≠1)) false false)
   else((nS s (nS s P):Int),kS s (nS s P),xS s (nS s P),(fS s (nS s P):Int),(nS s (nS s P):Int),(fS s (nS s P):Int),(sQ (decide (kS s (nS s P)≠1)|| !rP (xS s (nS s P))) (fd.any fun y=>decide (y.1=xS s (nS s P))) (decide (fd.length=20))),((nS s P):Int))) sr tg cm st (AE fd (xS s (nS s P)) v) l m))/\
  ((sQ (decide (kS s (nS s P)≠1)|| !rP (xS s (nS s P))) (fd.any fun y=>decide (y.1=xS s (nS s P))) (decide (fd.length=20)))=0->v=xS s (nS s (nS s P))):=by
 have hQ:=(s8 hP).2;unfold vD rV sP;dsimp only;rw[aQj (HN hk),hx,aQl (by rw[aEN.1];decide)];unfold rE;rw[aEN.2];dsimp only;rw[aQl (by decide),aQj rfl];obtain⟨v,hv,h2⟩:=aLY hsm hQ (c:=(c.1,(c.2.1,(c.2.2.1,(c.2.2.2.1,()))))) (a:=a) (en:=(P:Int)) (f:=(fS s P:Int)) (k:=kS s P) (x:=yT) (ends:=ends) (ids:=ids) (b9:=[]) (b10:=sr) (b11:=tg) (b12:=cm) (b18:=l) (b13:=(st,(fd,()))) (b14:=hd) (b21:=m) hl;refine⟨v,?_,h2⟩;rw[hv,aQi];rfl
theorem aMb (hk:kS s P=2) (hx:xS s P=sR): ∃v,vD (s,(at0,())) c (ends,(en0,())) true ids (rV (sP s P a) sr tg cm st fd l m)=
  some (.inl (rV (if rN .str .bool m sR=true then(((nS s P):Int),kS s P,sR,(fS s P:Int),((nS s P):Int),(fS s P:Int),9,(P:Int)) else tC s (nS s (nS s P)) a (nS s (nS s P)) (kS s (nS s P)) (xS s (nS s P)) (fS s (nS s P)) (nS s (nS s P)) (nS s P) (sQ (decide (kS s (nS s P)≠1)) false false)) v tg cm st fd l (sG .str .bool sR true m)))/\
  (¬rN .str .bool m sR=true->v=xS s (nS s P)):=by
 have hQ:=(s8 hP).2;unfold vD rV sP;dsimp only;rw[aQj (HN hk),hx,aQl (by rw[aEO.1];decide)];unfold rE;rw[aEO.2];dsimp only;rw[aQl (by decide),aQl (by decide),aQj rfl];obtain⟨v,hv,h2⟩:=aLZ hsm hQ (c:=(c.1,(c.2.1,(c.2.2.1,(c.2.2.2.1,()))))) (a:=a) (en:=(P:Int)) (f:=(fS s P:Int)) (k:=kS s P) (x:=sR) (ends:=ends) (ids:=ids) (b9:=[]) (b10:=sr) (b11:=tg) (b12:=cm) (b18:=l) (b13:=(st,(fd,()))) (b14:=true) (b21:=m);refine⟨v,?_,h2⟩;rw[hv,aQi];rfl
theorem aMc (hk:kS s P=2) (hx:xS s P=sS): ∃v,vD (s,(at0,())) c (ends,(en0,())) true ids (rV (sP s P a) sr tg cm st fd l m)=
  some (.inl (rV (if rN .str .bool m sS=true then(((nS s P):Int),kS s P,sS,(fS s P:Int),((nS s P):Int),(fS s P:Int),9,(P:Int)) else tC s (nS s (nS s P)) a (nS s (nS s P)) (kS s (nS s P)) (xS s (nS s P)) (fS s (nS s P)) (nS s (nS s P)) (nS s P) (sQ (decide (kS s (nS s P)≠1)) false false)) sr v cm st fd l (sG .str .bool sS true m)))/\
  (¬rN .str .bool m sS=true->v=xS s (nS s P)):=by
 have hQ:=(s8 hP).2;unfold vD rV sP;dsimp only;rw[aQj (HN hk),hx,aQl (by rw[aEP.1];decide)];unfold rE;rw[aEP.2];dsimp only;rw[aQl (by decide),aQl (by decide),aQl (by decide),aQj rfl];obtain⟨v,hv,h2⟩:=aL0 hsm hQ (c:=(c.1,(c.2.1,(c.2.2.1,(c.2.2.2.1,()))))) (a:=a) (en:=(P:Int)) (f:=(fS s P:Int)) (k:=kS s P) (x:=sS) (ends:=ends) (ids:=ids) (b9:=[]) (b10:=sr) (b11:=tg) (b12:=cm) (b18:=l) (b13:=(st,(fd,()))) (b14:=true) (b21:=m);refine⟨v,?_,h2⟩;rw[hv,aQi];rfl
theorem aMd (hk:kS s P=2) (hx:xS s P=tD): ∃v,vD (s,(at0,())) c (ends,(en0,())) true ids (rV (sP s P a) sr tg cm st fd l m)=
  some (.inl (rV (if rN .str .bool m tD=true then(((nS s P):Int),kS s P,tD,(fS s P:Int),((nS s P):Int),(fS s P:Int),9,(P:Int)) else tC s (nS s (nS s P)) a (nS s (nS s P)) (kS s (nS s P)) (xS s (nS s P)) (fS s (nS s P)) (nS s (nS s P)) (nS s P) (sQ (decide (kS s (nS s P)≠2)|| !decide (0<=sX (xS s (nS s P)))) false false)) sr tg cm v fd l (sG .str .bool tD true m)))/\
  (¬rN .str .bool m tD=true->v=max 0 (sX (xS s (nS s P)))):=by
 have hQ:=(s8 hP).2;unfold vD rV sP;dsimp only;rw[aQj (HN hk),hx,aQl (by rw[aEQ.1];decide)];unfold rE;rw[aEQ.2];dsimp only;rw[aQl (by decide),aQl (by decide),aQl (by decide),aQl (by decide),aQj rfl];obtain⟨v,hv,h2⟩:=aL1 hsm hQ (c:=(c.1,(c.2.1,(c.2.2.1,(c.2.2.2.1,()))))) (a:=a) (en:=(P:Int)) (f:=(fS s P:Int)) (k:=kS s P) (x:=tD) (ends:=ends) (ids:=ids) (b9:=[]) (b10:=sr) (b11:=tg) (b12:=cm) (b18:=l) (b13:=(st,(fd,()))) (b14:=true) (b21:=m);refine⟨v,?_,h2⟩;rw[hv,aQi];rfl
theorem aMe (hk:kS s P=2) (hx:xS s P=CM) (hl:l.length<=1000):vD (s,(at0,())) c (ends,(en0,())) true ids (rV (sP s P a) sr tg cm st fd l m)=
  some (.inl (rV (tC s (nS s (nS s P)) a (nS s (nS s P)) (kS s (nS s P)) (xS s (nS s P)) (fS s (nS s P)) (nS s (nS s P)) (nS s P) (sQ (decide (kS s (nS s P)≠2)|| !rP (xS s (nS s P))) (l.any fun y=>decide (y=xS s (nS s P))) (decide (l.length=20)))) sr tg cm st fd (l++[xS s (nS s P)]) m)):=by
 have hQ:=(s8 hP).2;unfold vD rV sP;dsimp only;rw[aQj (HN hk),hx,aQl (by rw[aER.1];decide)];unfold rE;rw[aER.2];dsimp only;rw[aQl (by decide),aQl (by decide),aQl (by decide),aQl (by decide),aQl (by decide),aQj rfl];rw[S2 hsm hQ hl,aQi];rfl
theorem aES (hk:kS s P=2) (hx: ∀b c' d e g m',wL .str .fn (wF [] b c' d e hd g m') (xS s P)=false):vD (s,(at0,())) c (ends,(en0,())) hd ids (rV (sP s P a) sr tg cm st fd l m)=
  some (.inr (rV ((nS s P:Int),kS s P,xS s P,(fS s P:Int),(nS s P:Int),(fS s P:Int),3,(P:Int)) sr tg cm st fd l m)):=by
 unfold vD rV sP;dsimp only;rw[aQj (HN hk),aQj (by rw[hx];rfl)];unfold rE;rw[VE]
theorem aMf (hk:kS s P≠2):vD (s,(at0,())) c (ends,(en0,())) hd ids (rV (sP s P a) sr tg cm st fd l m)=
  some (.inr (rV (sP s P a) sr tg cm st fd l m)):=by
 unfold vD rV sP;dsimp only;rw[aQl (by simp [hk])]
omit hsm hP in
theorem a6C {r:R8}(he:r.2.2.2.2.2.2.1≠0):vD (s,(at0,())) c (ends,(en0,())) hd ids (rV r sr tg cm st fd l m)=
  some (.inr (rV r sr tg cm st fd l m)):=by
 unfold vD rV;dsimp only;rw[aQl (by simp [he])]
end
theorem BZ: ∀(x y:List UInt8),Op.bytesLess x y=decide (x<y)
 |[],[]=>by simp [Op.bytesLess]
 |_::_,[]=>by simp [Op.bytesLess]
 |[],_::_=>by simp [Op.bytesLess]
 |a::x,b::y=>by
  rw[Op.bytesLess,BZ x y];simp only[List.cons_lt_cons_iff];by_cases h1:a<b<;>by_cases h2:a=b<;>by_cases h3:x<y<;>simp [h1,h2,h3]
theorem aET (l:List (List UInt8)):(vJ l).Pairwise (·<=·):=by
 have:=List.pairwise_mergeSort (le:=fun x y:List UInt8=>decide (x<=y)) (fun a b c h1 h2=>aRs (List.le_trans (aRa h1) (aRa h2))) (fun a b=>by simpa using List.le_total a b) l;exact this.imp (fun h=>aRa h)
theorem VK (l:List (List UInt8)):(vJ l).Perm l:=List.mergeSort_perm l _
theorem a6D (l:List (List UInt8)):(vJ l).length=l.length:=(VK l).length_eq
theorem aMg (l:List (List UInt8)) (p:List UInt8->Bool):(vJ l).any p=l.any p:=(VK l).any_eq
theorem aMh (l:List (List UInt8)) (x:List UInt8):(DK l x).Perm (l++[x]):=by
 unfold DK;have h:(l.take (wX l x)++l.drop (wX l x))=l:=aRy _ _;have h2:(l.take (wX l x)++[x]++l.drop (wX l x)).Perm (l.take (wX l x)++(l.drop (wX l x)++[x])):=by
  rw[aQt];exact List.Perm.append_left _ List.perm_append_comm
 have h3:l.take (wX l x)++(l.drop (wX l x)++[x])=l++[x]:=by rw[<-aQt,h]
 rw[h3] at h2;exact h2
theorem aMi {l:List (List UInt8)}(x:List UInt8) (h:l.Pairwise (·<=·)):(DK l x).Pairwise (·<=·):=by
 have ht: ∀y∈l.take (wX l x),y<=x:=by
  intro y hy;obtain⟨j,hj,rfl⟩:=List.mem_iff_getElem.1 hy;rw[aQM] at hj;rw[List.getElem_take];have:Op.bytesLess l[j] x=true:=by
   have hk:wX l x=(l.findIdx? fun y=> !Op.bytesLess y x).getD l.length:=rfl;cases hf:l.findIdx? fun y=> !Op.bytesLess y x with
   |none=>
    have:=aRL.1 hf l[j] (aRF _);simpa using this
   |some n=>
    rw[hf] at hk;have:=(aQX.1 hf).2.2 j (by rw[hk] at hj;simp only[aRQ] at hj;omega);simpa using this
  rw[BZ] at this;exact List.le_of_lt (aRa this)
 have hd: ∀y∈l.drop (wX l x),x<=y:=by
  intro y hy;have hk:wX l x=(l.findIdx? fun y=> !Op.bytesLess y x).getD l.length:=rfl;cases hf:l.findIdx? fun y=> !Op.bytesLess y x with
  |none=>
   rw[hf] at hk;rw[hk] at hy;simp at hy
  |some n=>
   rw[hf] at hk;obtain⟨hn,h1,h2⟩:=aQX.1 hf;have hx:x<=l[n]:=by
    rw[BZ] at h1;simp only[aQO,aQY] at h1;exact List.not_lt.1 h1
   rw[hk] at hy;simp only[aRQ] at hy;rw[aQL hn] at hy;rcases aQC.1 hy with rfl|hy
   ·exact hx
   ·have hp:(l.drop n).Pairwise (·<=·):=h.sublist (List.drop_sublist _ _);rw[aQL hn] at hp;exact List.le_trans hx ((aR7.1 hp).1 y hy)
 unfold DK;rw[aQt];refine aRD.2 ⟨h.sublist (List.take_sublist _ _),aRD.2 ⟨aR1 _ _,h.sublist (List.drop_sublist _ _),?_⟩,?_⟩
 ·intro a ha b hb;rw[aQx.1 ha];exact hd b hb
 ·intro a ha b hb;have hax:=ht a ha;rcases aRe.1 hb with hb|hb
  ·rw[aQx.1 hb];exact hax
  ·exact List.le_trans hax (hd b hb)
theorem aMj (l:List (List UInt8)) (x:List UInt8):DK (vJ l) x=vJ (l++[x]):=
 List.Perm.eq_of_pairwise (fun _ _ _ _ h1 h2=>List.le_antisymm h1 h2) (aMi x (aET l)) (aET _)
  ((aMh _ _).trans (((VK l).append_right _).trans (VK _).symm))
theorem aMk {b:UInt8}{t:List UInt8}(h:xN b.toNat=true):0<wV (b::t):=by
 unfold wV;have hw:vA b=true:=by
  unfold vA Q1;simp [h]
 rw[aRm,aQl (by simp [hw])];cases t.findIdx? fun b=> !vA b with
 |none=>simp
 |some n=>simp
theorem aMl {l:List UInt8}(h0:(uK l).1≠0) (h4:(uK l).1≠4):0<(uK l).2.2:=by
 cases l with
 |nil=>exact absurd rfl h4
 |cons b t=>
  by_cases h1:b=123\/b=125
  ·rw[MB h1];exact Nat.one_pos
  ·by_cases h2:b=34
   ·rw[MC h1 h2] at h0⊢;unfold xO at*;cases he:sA 34 t with
    |none=>rw[he] at h0;exact absurd rfl h0
    |some n=>
     rw[he] at h0;dsimp only at*;split
     ·rename_i hh;rw[aQj hh] at h0;exact absurd rfl h0
     ·exact Nat.succ_pos _
   ·by_cases h3:xN b.toNat=true
    ·rw[MD h1 h2 h3];exact aMk h3
    ·rw[ME h1 h2 h3] at h0;exact absurd rfl h0
theorem B7 {s:List UInt8}{P:Nat}(h0:kS s P≠0) (h4:kS s P≠4):P<nS s P:=by
 unfold kS at*;unfold nS;unfold t8 at*;split
 ·rename_i hg;rw[aQj hg] at h0 h4;have:=aMl h0 h4;dsimp only;omega
 ·rename_i hg;rw[aQl hg] at h0;exact absurd rfl h0
abbrev MI:=Int×Int×Int×List UInt8×List UInt8×List (List UInt8)×List (List UInt8)×Int×List qY×Bool×Bool×Bool
section
variable {s:List UInt8}(hsm:s.length<=4000000000) {P:Nat}(hP:P<=s.length) {c:C4}{bad bad0 at0 e0:Int}{ends:List Int}
 {i1 sr tg:List UInt8}{cm fg:List (List UInt8)}{st:Int}{fd:List qY}{i:rG}{d1 d2 d3 hd:Bool}
include hsm hP
theorem AH (hk:kS s P=2):tU (s,(at0,(bad0,(e0,(c,(ends,())))))) i hd ((P:Int),bad,0,sr,tg,cm,fg,st,fd,d1,d2,d3)=
  (A9 (s,((nS s P:Int),(bad,(0,(c,(ends,())))))) (i.1,(sr,(tg,(cm,(fg,(st,(fd,()))))))) (d1,(d2,(d3,()))) (2,(xS s P,((fS s P:Int),((nS s P:Int),())))) hd).bind fun r=>
   some (.inl (r.1,r.2.1,r.2.2.1,r.2.2.2.1,r.2.2.2.2.1,r.2.2.2.2.2.1,r.2.2.2.2.2.2.1,r.2.2.2.2.2.2.2.1,r.2.2.2.2.2.2.2.2.1,r.2.2.2.2.2.2.2.2.2.1,r.2.2.2.2.2.2.2.2.2.2.1,r.2.2.2.2.2.2.2.2.2.2.2)):=by
 have hkR:kR (kS s P)=2:=(AG (by decide) (by decide)).2 hk;unfold tU;dsimp only;rw[aQj (show decide ((0:Int)=0)=true from rfl),Q8 hsm hP,aQi];dsimp only;rw[hkR,aQl (show¬(decide ((2:Int)=3)&&decide (xS s P=[125]))=true from by simp),aQl (show¬(!decide ((2:Int)=2))=true from by simp)]
theorem a6E (hk:kS s P=3) (hx:xS s P=[125]) (he:ends.length<=5000):tU (s,(at0,(bad0,(e0,(c,(ends,())))))) i hd ((P:Int),bad,0,sr,tg,cm,fg,st,fd,d1,d2,d3)=
  some (.inr (.inr ((nS s P:Int),bad,0,ends++[(nS s P:Int)],sr,tg,cm,fg,st,fd))):=by
 have hkR:kR (kS s P)=3:=(AG (by decide) (by decide)).2 hk;unfold tU;dsimp only;rw[aQj (show decide ((0:Int)=0)=true from rfl),Q8 hsm hP,aQi];dsimp only;rw[hkR,aQj (show (decide ((3:Int)=3)&&decide (xS s P=[125]))=true from by simp [hx]),aQj (by simp;omega),aQj (by simp;omega)];rfl
theorem aEU (hk:kS s P≠2) (hx: ¬(kS s P=3/\xS s P=[125])):tU (s,(at0,(bad0,(e0,(c,(ends,())))))) i hd ((P:Int),bad,0,sr,tg,cm,fg,st,fd,d1,d2,d3)=
  some (.inr (.inr ((P:Int),(fS s P:Int),3,ends,sr,tg,cm,fg,st,fd))):=by
 have hk2:kR (kS s P)≠2:=fun h=>hk ((AG (by decide) (by decide)).1 h);have hk3: ¬(kR (kS s P)=3/\xS s P=[125]):=fun h=>hx ⟨(AG (by decide) (by decide)).1 h.1,h.2⟩;unfold tU;dsimp only;rw[aQj (show decide ((0:Int)=0)=true from rfl),Q8 hsm hP,aQi];dsimp only;rw[aQl (show¬(decide (kR (kS s P)=3)&&decide (xS s P=[125]))=true from by simpa using hk3),aQj (show (!decide (kR (kS s P)=2))=true from by simpa using hk2)];unfold rE;rw[wH]
omit hsm hP in
theorem QA {e p:Int}(he:e≠0):tU (s,(at0,(bad0,(e0,(c,(ends,())))))) i hd (p,bad,e,sr,tg,cm,fg,st,fd,d1,d2,d3)=
  some (.inr (.inl (p,bad,e,sr,tg,cm,fg,st,fd))):=by
 unfold tU;dsimp only;rw[aQl (show¬decide (e=0)=true from by simpa using he)]
def s3 (s:List UInt8) (P:Nat) (a bad:Int) (ps:HL⊕HL) (rs:MI):Prop:=
 ∃(P':Nat) (sr tg:List UInt8) (cm:List (List UInt8)) (st:Int) (fd:List qY) (l:List (List UInt8)) (m:List (List UInt8×Bool)),
  P<P'/\P'<=s.length/\ps= .inl (rV (sP s P' a) sr tg cm st fd l m)/\rs=((P':Int),bad,0,sr,tg,cm,vJ l,st,fd,rN .str .bool m sR,rN .str .bool m sS,rN .str .bool m tD)/\
  cm.length<=20/\fd.length<=20/\l.length<=20
def Bad (ps:HL⊕HL) (rs:MI):Prop:=
 ∃(r:R8) (sr tg:List UInt8) (cm:List (List UInt8)) (st:Int) (fd:List qY) (l:List (List UInt8)) (m:List (List UInt8×Bool)),
  r.2.2.2.2.2.2.1≠0/\(ps= .inl (rV r sr tg cm st fd l m)\/ps= .inr (rV r sr tg cm st fd l m))/\l.length<=21/\rs.2.1=r.2.2.2.2.2.1/\rs.2.2.1=r.2.2.2.2.2.2.1
end
theorem aEV (d1 d2 d3:Bool):((decide (sR=sR)&&d1)||(decide (sR=sS)&&d2)||(decide (sR=tD)&&d3))=d1:=by cases d1<;>cases d2<;>cases d3<;>rfl
theorem aEW (d1 d2 d3:Bool):((decide (sS=sR)&&d1)||(decide (sS=sS)&&d2)||(decide (sS=tD)&&d3))=d2:=by cases d1<;>cases d2<;>cases d3<;>rfl
theorem aEX (d1 d2 d3:Bool):((decide (tD=sR)&&d1)||(decide (tD=sS)&&d2)||(decide (tD=tD)&&d3))=d3:=by cases d1<;>cases d2<;>cases d3<;>rfl
theorem CN {s:List UInt8}{P:Nat}{a at0 k:Int}{x:List UInt8}{f t en code:Int}(h:code=0):tC s P a at0 k x f t en code=sP s P a:=aQj h
theorem wZ {s:List UInt8}{P:Nat}{a at0 k:Int}{x:List UInt8}{f t en code:Int}(h:code≠0):tC s P a at0 k x f t en code=(at0,k,x,f,t,f,code,en):=aQl h
theorem y8 {r:R8}{sr tg:List UInt8}{cm:List (List UInt8)}{st:Int}{fd:List qY}{l:List (List UInt8)}{m:List (List UInt8×Bool)}{rs:MI}{f e:Int}
  (h1:r.2.2.2.2.2.1=f) (h2:r.2.2.2.2.2.2.1=e) (he:e≠0) (hl:l.length<=21) (h3:rs.2.1=f) (h4:rs.2.2.1=e):Bad (.inl (rV r sr tg cm st fd l m)) rs:=
 ⟨r,sr,tg,cm,st,fd,l,m,by rw[h2];exact he,.inl rfl,hl,h3.trans h1.symm,h4.trans h2.symm⟩
theorem aEY {r:R8}{sr tg:List UInt8}{cm:List (List UInt8)}{st:Int}{fd:List qY}{l:List (List UInt8)}{m:List (List UInt8×Bool)}{rs:MI}{f e:Int}
  (h1:r.2.2.2.2.2.1=f) (h2:r.2.2.2.2.2.2.1=e) (he:e≠0) (hl:l.length<=21) (h3:rs.2.1=f) (h4:rs.2.2.1=e):Bad (.inr (rV r sr tg cm st fd l m)) rs:=
 ⟨r,sr,tg,cm,st,fd,l,m,by rw[h2];exact he,.inr rfl,hl,h3.trans h1.symm,h4.trans h2.symm⟩
section
variable {s:List UInt8}(hsm:s.length<=4000000000) {P:Nat}(hP:P<=s.length) {c c2:C4}{a en0 at0 at1 bad bad0 e0:Int}{ends ends2:List Int}{ids:List (List UInt8×Bool)}
 {sr tg:List UInt8}{cm l:List (List UInt8)}{st:Int}{fd:List qY}{m:List (List UInt8×Bool)}{hd:Bool}{i:rG}
include hsm hP
def yU (s:List UInt8) (P:Nat) (c c2:C4) (a en0 at0 at1 bad bad0 e0:Int) (ends ends2:List Int) (ids:List (List UInt8×Bool)) (sr tg:List UInt8) (cm l:List (List UInt8)) (st:Int) (fd:List qY) (m:List (List UInt8×Bool)) (hd:Bool) (i:rG):Prop:=
 ∃ps rs,vD (s,(at0,())) c (ends,(en0,())) hd ids (rV (sP s P a) sr tg cm st fd l m)=some ps/\
  tU (s,(at1,(bad0,(e0,(c2,(ends2,())))))) i (!hd) ((P:Int),bad,0,sr,tg,cm,vJ l,st,fd,rN .str .bool m sR,rN .str .bool m sS,rN .str .bool m tD)=some (.inl rs)/\
  (s3 s P a bad ps rs\/Bad ps rs)
theorem aMm (hk:kS s P=2) (hx:xS s P=wY) (h1:cm.length<=20) (h2:fd.length<=20) (h3:l.length<=20):yU s P c c2 a en0 at0 at1 bad bad0 e0 ends ends2 ids sr tg cm l st fd m hd i:=by
 have hQ:=(s8 hP).2;have hPQ:P<nS s P:=B7 (by omega) (by omega);have hR:=s8 hQ;unfold yU;rw[AH hsm hP hk];by_cases h20:cm.length=20
 ·obtain⟨y,hy⟩:=aL9 (c:=c) (a:=a) (en0:=en0) (at0:=at0) (ends:=ends) (ids:=ids) (sr:=sr) (tg:=tg) (l:=l) (st:=st) (fd:=fd) (m:=m) (hd:=hd) hsm hP hk hx h20;rw[hy,aEL hsm hQ hx (by omega),aQi];exact⟨_,_,rfl,rfl,.inr (y8 rfl rfl (show (6:Int)≠0 from by decide) (by omega) rfl rfl)⟩
 ·rw[aL8 hsm hP hk hx (by omega) h20,a6z hsm hQ hx (by omega),aQi];by_cases hk1:kS s (nS s P)=1
  ·rw[aQj hk1,CN (CL (by simp [hk1]) (by simp) (by simp))];exact⟨_,_,rfl,rfl,.inl ⟨nS s (nS s P),sr,tg,cm++[xS s (nS s P)],st,fd,l,m,by omega,hR.2,rfl,rfl,by simp;omega,h2,h3⟩⟩
  ·rw[aQl hk1,yR (by simp [hk1]),wZ (by decide)];exact⟨_,_,rfl,rfl,.inr (y8 rfl rfl (show (3:Int)≠0 from by decide) (by omega) rfl rfl)⟩
theorem aMn (hk:kS s P=2) (hx:xS s P=sR) (h1:cm.length<=20) (h2:fd.length<=20) (h3:l.length<=20):yU s P c c2 a en0 at0 at1 bad bad0 e0 ends ends2 ids sr tg cm l st fd m true i:=by
 have hQ:=(s8 hP).2;have hPQ:P<nS s P:=B7 (by omega) (by omega);have hR:=s8 hQ;unfold yU;rw[AH hsm hP hk,show (!true)=false from rfl,hx,HK hsm hQ (by decide) (by decide) (by decide),aEV,aQi];obtain⟨v,hv,h5⟩:=aMb (c:=c) (a:=a) (en0:=en0) (at0:=at0) (ends:=ends) (ids:=ids) (sr:=sr) (tg:=tg) (cm:=cm) (l:=l) (st:=st) (fd:=fd) (m:=m) hsm hP hk hx;rw[hv];by_cases hd1:rN .str .bool m sR=true
 ·rw[aQj hd1,aQj hd1];exact⟨_,_,rfl,rfl,.inr (y8 rfl rfl (show (9:Int)≠0 from by decide) (by omega) rfl rfl)⟩
 ·rw[aQl hd1,aQl hd1,aQj rfl,h5 hd1];by_cases hk1:kS s (nS s P)=1
  ·rw[aQj hk1,CN (CL (by simp [hk1]) (by simp) (by simp))];refine⟨_,_,rfl,rfl,.inl ⟨nS s (nS s P),xS s (nS s P),tg,cm,st,fd,l,sG .str .bool sR true m,by omega,hR.2,rfl,?_,h1,h2,h3⟩⟩;rw[DL,DL,DL,aQj rfl,aQl (by decide),aQl (by decide)]
  ·rw[aQl hk1,yR (by simp [hk1]),wZ (by decide)];exact⟨_,_,rfl,rfl,.inr (y8 rfl rfl (show (3:Int)≠0 from by decide) (by omega) rfl rfl)⟩
theorem aMo (hk:kS s P=2) (hx:xS s P=sS) (h1:cm.length<=20) (h2:fd.length<=20) (h3:l.length<=20):yU s P c c2 a en0 at0 at1 bad bad0 e0 ends ends2 ids sr tg cm l st fd m true i:=by
 have hQ:=(s8 hP).2;have hPQ:P<nS s P:=B7 (by omega) (by omega);have hR:=s8 hQ;unfold yU;rw[AH hsm hP hk,show (!true)=false from rfl,hx,HK hsm hQ (by decide) (by decide) (by decide),aEW,aQi];obtain⟨v,hv,h5⟩:=aMc (c:=c) (a:=a) (en0:=en0) (at0:=at0) (ends:=ends) (ids:=ids) (sr:=sr) (tg:=tg) (cm:=cm) (l:=l) (st:=st) (fd:=fd) (m:=m) hsm hP hk hx;rw[hv];by_cases hd1:rN .str .bool m sS=true
 ·rw[aQj hd1,aQj hd1];exact⟨_,_,rfl,rfl,.inr (y8 rfl rfl (show (9:Int)≠0 from by decide) (by omega) rfl rfl)⟩
 ·rw[aQl hd1,aQl hd1,aQl (by decide),aQj rfl,h5 hd1];by_cases hk1:kS s (nS s P)=1
  ·rw[aQj hk1,CN (CL (by simp [hk1]) (by simp) (by simp))];refine⟨_,_,rfl,rfl,.inl ⟨nS s (nS s P),sr,xS s (nS s P),cm,st,fd,l,sG .str .bool sS true m,by omega,hR.2,rfl,?_,h1,h2,h3⟩⟩;rw[DL,DL,DL,aQl (by decide),aQj rfl,aQl (by decide)]
  ·rw[aQl hk1,yR (by simp [hk1]),wZ (by decide)];exact⟨_,_,rfl,rfl,.inr (y8 rfl rfl (show (3:Int)≠0 from by decide) (by omega) rfl rfl)⟩
theorem aMp (hk:kS s P=2) (hx:xS s P=tD) (h1:cm.length<=20) (h2:fd.length<=20) (h3:l.length<=20):yU s P c c2 a en0 at0 at1 bad bad0 e0 ends ends2 ids sr tg cm l st fd m true i:=by
 have hQ:=(s8 hP).2;have hPQ:P<nS s P:=B7 (by omega) (by omega);have hR:=s8 hQ;unfold yU;rw[AH hsm hP hk,show (!true)=false from rfl,hx,HK hsm hQ (by decide) (by decide) (by decide),aEX,aQi];obtain⟨v,hv,h5⟩:=aMd (c:=c) (a:=a) (en0:=en0) (at0:=at0) (ends:=ends) (ids:=ids) (sr:=sr) (tg:=tg) (cm:=cm) (l:=l) (st:=st) (fd:=fd) (m:=m) hsm hP hk hx;rw[hv];by_cases hd1:rN .str .bool m tD=true
 ·rw[aQj hd1,aQj hd1];exact⟨_,_,rfl,rfl,.inr (y8 rfl rfl (show (9:Int)≠0 from by decide) (by omega) rfl rfl)⟩
 ·rw[aQl hd1,aQl hd1,aQl (by decide),aQl (by decide),aQj rfl,h5 hd1];by_cases hk1:kS s (nS s P)=2
  ·rw[aQj hk1];by_cases h6:sX (xS s (nS s P))<0
   ·rw[aQj h6,yR (by simp [hk1];omega),wZ (by decide)];exact⟨_,_,rfl,rfl,.inr (y8 rfl rfl (show (3:Int)≠0 from by decide) (by omega) rfl rfl)⟩
   ·rw[aQl h6,CN (CL (by simp [hk1];omega) (by simp) (by simp)),show max 0 (sX (xS s (nS s P)))=sX (xS s (nS s P)) by omega];refine⟨_,_,rfl,rfl,.inl ⟨nS s (nS s P),sr,tg,cm,sX (xS s (nS s P)),fd,l,sG .str .bool tD true m,by omega,hR.2,rfl,?_,h1,h2,h3⟩⟩;rw[DL,DL,DL,aQl (by decide),aQl (by decide),aQj rfl]
  ·rw[aQl hk1,yR (by simp [hk1]),wZ (by decide)];exact⟨_,_,rfl,rfl,.inr (y8 rfl rfl (show (3:Int)≠0 from by decide) (by omega) rfl rfl)⟩
theorem aMq (hk:kS s P=2) (hx:xS s P=yT) (h1:cm.length<=20) (h2:fd.length<=20) (h3:l.length<=20):yU s P c c2 a en0 at0 at1 bad bad0 e0 ends ends2 ids sr tg cm l st fd m hd i:=by
 have hQ:=(s8 hP).2;have hPQ:P<nS s P:=B7 (by omega) (by omega);have hR:=s8 hQ;have hR2:=s8 hR.2;unfold yU;rw[AH hsm hP hk,a6A hsm hQ hx (by omega),aQi];obtain⟨v,hv,h5⟩:=aMa (c:=c) (a:=a) (en0:=en0) (at0:=at0) (ends:=ends) (ids:=ids) (sr:=sr) (tg:=tg) (cm:=cm) (l:=l) (st:=st) (fd:=fd) (m:=m) (hd:=hd) hsm hP hk hx (by omega);rw[hv];unfold EN;by_cases hk1:kS s (nS s P)=1
 ·rw[aQl (show¬kS s (nS s P)≠1 from fun h=>h hk1)];by_cases hn:rP (xS s (nS s P))=true
  ·rw[aQl (show¬rP (xS s (nS s P))=false from by simp [hn])];have hb: ¬(decide (kS s (nS s P)≠1)|| !rP (xS s (nS s P)))=true:=by simp [hk1,hn]
   by_cases hdup:(fd.any fun y=>decide (y.1=xS s (nS s P)))=true
   ·rw[aQj hdup,MF hb hdup,aQl (show¬(9:Int)=0 from by decide)];exact⟨_,_,rfl,rfl,.inr (y8 rfl rfl (show (9:Int)≠0 from by decide) (by omega) rfl rfl)⟩
   ·rw[aQl hdup];by_cases h20:fd.length=20
    ·rw[aQj (show 20<=fd.length by omega),MG hb hdup (aRs h20),aQl (show¬(6:Int)=0 from by decide)];exact⟨_,_,rfl,rfl,.inr (y8 rfl rfl (show (6:Int)≠0 from by decide) (by omega) rfl rfl)⟩
    ·have hc:=CL hb hdup (show¬decide (fd.length=20)=true from by simp [h20]);rw[aQl (show¬20<=fd.length by omega),h5 hc,hc,aQj rfl];by_cases hk2:kS s (nS s (nS s P))=1
     ·rw[aQl (show¬kS s (nS s (nS s P))≠1 from fun h=>h hk2),CN (CL (by simp [hk2]) (by simp) (by simp))];have hl:=aKQ fd (xS s (nS s P)) (xS s (nS s (nS s P)));exact⟨_,_,rfl,rfl,.inl ⟨nS s (nS s (nS s P)),sr,tg,cm,st,AE fd (xS s (nS s P)) (xS s (nS s (nS s P))),l,m,by omega,hR2.2,rfl,rfl,h1,by omega,h3⟩⟩
     ·rw[aQj hk2,yR (by simp [hk2]),wZ (by decide)];exact⟨_,_,rfl,rfl,.inr (y8 rfl rfl (show (3:Int)≠0 from by decide) (by omega) rfl rfl)⟩
  ·have hn':rP (xS s (nS s P))=false:=by simpa using hn
   rw[aQj hn',yR (by simp [hn']),aQl (show¬(3:Int)=0 from by decide)];exact⟨_,_,rfl,rfl,.inr (y8 rfl rfl (show (3:Int)≠0 from by decide) (by omega) rfl rfl)⟩
 ·rw[aQj hk1,yR (by simp [hk1]),aQl (show¬(3:Int)=0 from by decide)];exact⟨_,_,rfl,rfl,.inr (y8 rfl rfl (show (3:Int)≠0 from by decide) (by omega) rfl rfl)⟩
theorem aMr (hk:kS s P=2) (hx:xS s P=CM) (h1:cm.length<=20) (h2:fd.length<=20) (h3:l.length<=20):yU s P c c2 a en0 at0 at1 bad bad0 e0 ends ends2 ids sr tg cm l st fd m true i:=by
 have hQ:=(s8 hP).2;have hPQ:P<nS s P:=B7 (by omega) (by omega);have hR:=s8 hQ;have hsl:=a6D l;unfold yU;rw[AH hsm hP hk,show (!true)=false from rfl,a6B hsm hQ hx (by omega),aQi,aMe hsm hP hk hx (by omega)];unfold EO;rw[aMg,hsl,aMj];by_cases hk1:kS s (nS s P)=2
 ·rw[aQl (show¬kS s (nS s P)≠2 from fun h=>h hk1)];by_cases hn:rP (xS s (nS s P))=true
  ·rw[aQl (show¬rP (xS s (nS s P))=false from by simp [hn])];have hb: ¬(decide (kS s (nS s P)≠2)|| !rP (xS s (nS s P)))=true:=by simp [hk1,hn]
   by_cases hdup:(l.any fun y=>decide (y=xS s (nS s P)))=true
   ·rw[aQj hdup,MF hb hdup,wZ (by decide)];exact⟨_,_,rfl,rfl,.inr (y8 rfl rfl (show (9:Int)≠0 from by decide) (by simp;omega) rfl rfl)⟩
   ·rw[aQl hdup];by_cases h20:l.length=20
    ·rw[aQj (show 20<=l.length by omega),MG hb hdup (aRs h20),wZ (by decide)];exact⟨_,_,rfl,rfl,.inr (y8 rfl rfl (show (6:Int)≠0 from by decide) (by simp;omega) rfl rfl)⟩
    ·rw[aQl (show¬20<=l.length by omega),CN (CL hb hdup (show¬decide (l.length=20)=true from by simp [h20]))];exact⟨_,_,rfl,rfl,.inl ⟨nS s (nS s P),sr,tg,cm,st,fd,l++[xS s (nS s P)],m,by omega,hR.2,rfl,rfl,h1,h2,by simp;omega⟩⟩
  ·have hn':rP (xS s (nS s P))=false:=by simpa using hn
   rw[aQj hn',yR (by simp [hn']),wZ (by decide)];exact⟨_,_,rfl,rfl,.inr (y8 rfl rfl (show (3:Int)≠0 from by decide) (by simp;omega) rfl rfl)⟩
 ·rw[aQj hk1,yR (by simp [hk1]),wZ (by decide)];exact⟨_,_,rfl,rfl,.inr (y8 rfl rfl (show (3:Int)≠0 from by decide) (by simp;omega) rfl rfl)⟩
theorem aMs (hk:kS s P=2) (hx:xS s P≠wY) (hx2:xS s P≠yT) (h3:l.length<=20):yU s P c c2 a en0 at0 at1 bad bad0 e0 ends ends2 ids sr tg cm l st fd m false i:=by
 have hQ:=(s8 hP).2;unfold yU;rw[AH hsm hP hk,show (!false)=true from rfl,aEM hsm hQ hx hx2,aQi,aES hsm hP hk (fun _ _ _ _ _ _=>aL6 hx hx2)];exact⟨_,_,rfl,rfl,.inr (aEY rfl rfl (show (3:Int)≠0 from by decide) (by omega) rfl rfl)⟩
theorem aMt (hk:kS s P=2) (hx:xS s P≠wY) (hx2:xS s P≠yT) (hx3:xS s P≠sR) (hx4:xS s P≠sS) (hx5:xS s P≠tD) (hx6:xS s P≠CM) (h3:l.length<=20):yU s P c c2 a en0 at0 at1 bad bad0 e0 ends ends2 ids sr tg cm l st fd m true i:=by
 have hQ:=(s8 hP).2;unfold yU;rw[AH hsm hP hk,show (!true)=false from rfl,HK hsm hQ hx hx2 hx6,aQi,aES hsm hP hk (fun _ _ _ _ _ _=>aL7 hx hx2 hx3 hx4 hx5 hx6),
  aQl (by simp [hx3,hx4,hx5]),aQl hx3,aQl hx4,aQl hx5]
 exact⟨_,_,rfl,rfl,.inr (aEY rfl rfl (show (3:Int)≠0 from by decide) (by omega) rfl rfl)⟩
theorem aMu (hk:kS s P=2) (h1:cm.length<=20) (h2:fd.length<=20) (h3:l.length<=20):yU s P c c2 a en0 at0 at1 bad bad0 e0 ends ends2 ids sr tg cm l st fd m hd i:=by
 by_cases hx:xS s P=wY
 ·exact aMm hsm hP hk hx h1 h2 h3
 by_cases hx2:xS s P=yT
 ·exact aMq hsm hP hk hx2 h1 h2 h3
 cases hd with
 |false=>exact aMs hsm hP hk hx hx2 h3
 |true=>
  by_cases hx3:xS s P=sR
  ·exact aMn hsm hP hk hx3 h1 h2 h3
  by_cases hx4:xS s P=sS
  ·exact aMo hsm hP hk hx4 h1 h2 h3
  by_cases hx5:xS s P=tD
  ·exact aMp hsm hP hk hx5 h1 h2 h3
  by_cases hx6:xS s P=CM
  ·exact aMr hsm hP hk hx6 h1 h2 h3
  exact aMt hsm hP hk hx hx2 hx3 hx4 hx5 hx6 h3
end
abbrev S9:=Int×Int×Int×List UInt8×List UInt8×List (List UInt8)×List (List UInt8)×Int×List qY
abbrev HO:=Int×Int×Int×List Int×List UInt8×List UInt8×List (List UInt8)×List (List UInt8)×Int×List qY
def aMv (s:List UInt8) (P:Nat) (a bad:Int) (ends2:List Int) (po:HL) (ro:S9⊕HO):Prop:=
 ∃(P':Nat) (sr tg:List UInt8) (cm:List (List UInt8)) (st:Int) (fd:List qY) (l:List (List UInt8)) (m:List (List UInt8×Bool)),
  P<=P'/\P'<=s.length/\kS s P'=3/\xS s P'=[125]/\po=rV (sP s P' a) sr tg cm st fd l m/\ro= .inr ((nS s P':Int),bad,0,ends2++[(nS s P':Int)],sr,tg,cm,vJ l,st,fd)/\
  cm.length<=20/\fd.length<=20/\l.length<=20
def aMw (s:List UInt8) (P:Nat) (a:Int) (po:HL) (ro:S9⊕HO):Prop:=
 ∃(P':Nat) (sr tg:List UInt8) (cm:List (List UInt8)) (st:Int) (fd:List qY) (l:List (List UInt8)) (m:List (List UInt8×Bool)) (r:HO),
  P<=P'/\P'<=s.length/\¬(kS s P'=3/\xS s P'=[125])/\po=rV (sP s P' a) sr tg cm st fd l m/\ro= .inr r/\r.2.1=(fS s P':Int)/\r.2.2.1=3/\l.length<=21
def aMx (po:HL) (ro:S9⊕HO):Prop:=
 ∃(r:R8) (sr tg:List UInt8) (cm:List (List UInt8)) (st:Int) (fd:List qY) (l:List (List UInt8)) (m:List (List UInt8×Bool)) (r9:S9),
  r.2.2.2.2.2.2.1≠0/\po=rV r sr tg cm st fd l m/\l.length<=21/\ro= .inl r9/\r9.2.1=r.2.2.2.2.2.1/\r9.2.2.1=r.2.2.2.2.2.2.1
theorem B8 {σ ρ:Type}{f:σ->Option (σ⊕ρ)}{x y:σ}(h:f x=some (.inl y)):pU f x=pU f y:=by
 rw[xG,h];rfl
theorem uL {σ ρ:Type}{f:σ->Option (σ⊕ρ)}{x:σ}{r:ρ}(h:f x=some (.inr r)):pU f x=some r:=by
 rw[xG,h];rfl
section
variable {s:List UInt8}(hsm:s.length<=4000000000) {c c2:C4}{a en0 at0 at1 bad bad0 e0:Int}{ends ends2:List Int}(hends:ends2.length<=5000) {ids:List (List UInt8×Bool)}{hd:Bool}{i:rG}
include hsm hends
theorem aEZ: ∀(n P:Nat) (sr tg:List UInt8) (cm l:List (List UInt8)) (st:Int) (fd:List qY) (m:List (List UInt8×Bool)),
  s.length-P<=n->P<=s.length->cm.length<=20->fd.length<=20->l.length<=20->
  ∃po ro,pU (vD (s,(at0,())) c (ends,(en0,())) hd ids) (rV (sP s P a) sr tg cm st fd l m)=some po/\
   pU (tU (s,(at1,(bad0,(e0,(c2,(ends2,())))))) i (!hd)) ((P:Int),bad,0,sr,tg,cm,vJ l,st,fd,rN .str .bool m sR,rN .str .bool m sS,rN .str .bool m tD)=some ro/\
   (aMv s P a bad ends2 po ro\/aMw s P a po ro\/aMx po ro)
 |n,P,sr,tg,cm,l,st,fd,m,hn,hP,h1,h2,h3=>by
  by_cases hk:kS s P=2
  ·obtain⟨ps,rs,hp,hr,hgb⟩:=aMu (c:=c) (c2:=c2) (a:=a) (en0:=en0) (at0:=at0) (at1:=at1) (bad:=bad) (bad0:=bad0) (e0:=e0) (ends:=ends) (ends2:=ends2) (ids:=ids) (sr:=sr) (tg:=tg) (st:=st) (m:=m) (hd:=hd) (i:=i) hsm hP hk h1 h2 h3;rw[B8 hr];rcases hgb with⟨P',sr',tg',cm',st',fd',l',m',g1,g2,rfl,rfl,g3,g4,g5⟩ |⟨r,sr',tg',cm',st',fd',l',m',b1,b2,b3,b4,b5⟩
   ·rw[B8 hp]
    match n,hn with
    |0,hn=>exact absurd g2 (by omega)
    |n+1,hn=>
     obtain⟨po,ro,i1,i2,i3⟩:=aEZ n P' sr' tg' cm' l' st' fd' m' (by omega) g2 g3 g4 g5;refine⟨po,ro,i1,i2,?_⟩;rcases i3 with⟨Q,x1,x2,x3,x4,x5,x6,x7,y1,y2⟩ |⟨Q,x1,x2,x3,x4,x5,x6,x7,x8,y1,y2⟩ |h
     ·exact .inl ⟨Q,x1,x2,x3,x4,x5,x6,x7,by omega,y2⟩
     ·exact .inr (.inl ⟨Q,x1,x2,x3,x4,x5,x6,x7,x8,by omega,y2⟩)
     ·exact .inr (.inr h)
   ·obtain⟨q1,q2,q3,q4⟩:=rs;have hre:q3≠0:=by rw[show q3=r.2.2.2.2.2.2.1 from b5];exact b1
    rw[uL (QA (s:=s) (c:=c2) (bad:=q2) (bad0:=bad0) (at0:=at1) (e0:=e0) (ends:=ends2) (i:=i) (hd:= !hd) (p:=q1) (sr:=q4.1) (tg:=q4.2.1) (cm:=q4.2.2.1) (fg:=q4.2.2.2.1) (st:=q4.2.2.2.2.1) (fd:=q4.2.2.2.2.2.1) (d1:=q4.2.2.2.2.2.2.1) (d2:=q4.2.2.2.2.2.2.2.1) (d3:=q4.2.2.2.2.2.2.2.2) hre)];rcases b2 with rfl|rfl
    ·rw[B8 hp,uL (a6C b1)];exact⟨_,_,rfl,rfl,.inr (.inr ⟨r,sr',tg',cm',st',fd',l',m',_,b1,rfl,b3,rfl,b4,b5⟩)⟩
    ·rw[uL hp];exact⟨_,_,rfl,rfl,.inr (.inr ⟨r,sr',tg',cm',st',fd',l',m',_,b1,rfl,b3,rfl,b4,b5⟩)⟩
  ·rw[uL (aMf hsm hP hk)];by_cases hb:kS s P=3/\xS s P=[125]
   ·rw[uL (a6E hsm hP hb.1 hb.2 hends)];exact⟨_,_,rfl,rfl,.inl ⟨P,sr,tg,cm,st,fd,l,m,aQF _,hP,hb.1,hb.2,rfl,rfl,h1,h2,h3⟩⟩
   ·rw[uL (aEU hsm hP hk hb)];exact⟨_,_,rfl,rfl,.inr (.inl ⟨P,sr,tg,cm,st,fd,l,m,_,aQF _,hP,hb,rfl,rfl,rfl,rfl,by omega⟩)⟩
end
abbrev VL (y:rG):Prop:=pQ y.2.2.2.1/\pQ y.2.2.2.2.1/\pQ y.2.2.2.2.2.2.1
abbrev B15:=List UInt8×List UInt8×List (List UInt8)×List (List UInt8)×Int×List qY×Int×Int×List UInt8×Int×Int×Int×Int×List Int×Int
abbrev i0 (i1:List UInt8):rG:=(i1,([],([],([],([],(0,([],())))))))
def aMy (s:List UInt8) (P:Nat) (a bad:Int) (ends ends2:List Int) (po:B15) (ro:HO):Prop:=
 ∃(P':Nat) (sr tg:List UInt8) (cm fg:List (List UInt8)) (st:Int) (fd:List qY),P<P'/\P'<=s.length/\
  po=(sr,tg,cm,fg,st,fd,(nS s P':Int),kS s P',xS s P',(fS s P':Int),(nS s P':Int),a,0,ends++[(P':Int)],(P':Int))/\
  ro=((P':Int),bad,0,ends2++[(P':Int)],sr,tg,cm,fg,st,fd)/\pQ cm/\pQ fg/\pQ fd
def aMz (po:B15) (ro:HO):Prop:=
 po.2.2.2.2.2.2.2.2.2.2.2.2.1≠0/\ro.2.1=po.2.2.2.2.2.2.2.2.2.2.2.1/\ro.2.2.1=po.2.2.2.2.2.2.2.2.2.2.2.2.1
section
variable {s:List UInt8}(hsm:s.length<=4000000000) {P:Nat}(hP:P<=s.length) {c c2:C4}{a en at0 bad k f t e:Int}{x i1:List UInt8}{ends ends2:List Int}(hends:ends.length<=5000) (hends2:ends2.length<=5000) {ids:List (List UInt8×Bool)}{hd:Bool}{i:rG}
include hends
theorem HP (he:e≠0): ∃po,v7 (s,(at0,())) (k,(x,(f,(t,())))) a e c (ends,(en,())) hd ids=some po/\po.2.2.2.2.2.2.2.2.2.2.2.1=a/\po.2.2.2.2.2.2.2.2.2.2.2.2.1=e:=by
 unfold v7;rw[VG he,aQi];dsimp only;have h:=uL (a6C (s:=s) (at0:=at0) (c:=c) (ends:=ends) (en0:=en) (ids:=ids) (hd:=hd) (sr:=[]) (tg:=[]) (cm:=[]) (st:=0) (fd:=[]) (l:=[]) (m:=[]) (r:=(at0,k,x,f,t,a,e,en)) he);unfold rV at h;dsimp only at h;rw[h];unfold qZ;rw[aQi];dsimp only;rw[VG he,aQi,aQj (by decide),aQj (by simp;omega)];exact⟨_,rfl,rfl,rfl⟩
include hsm hP hends2
theorem aE1: ∃po ro,v7 (s,((nS s P:Int),())) (kS s P,(xS s P,((fS s P:Int),((nS s P:Int),())))) a 0 c (ends,(en,())) hd ids=some po/\
  wQ (s,((P:Int),(bad,(0,(c2,(ends2,())))))) (i0 i1) (!hd)=some ro/\(aMy s P a bad ends ends2 po ro\/aMz po ro):=by
 have hQ:=(s8 hP).2;unfold v7 wQ;rw[Q6 hsm hQ,aQi,EM hsm hP,aQi];by_cases h0:kS s P=3/\xS s P=[123]
 ·have hPQ:P<nS s P:=B7 (by omega) (by omega);rw[aQj h0,CN rfl,w4 (by rw[(AG (by decide) (by decide)).2 h0.1,h0.2];decide)];obtain⟨po,ro,h1,h2,h3⟩:=aEZ (c:=c) (c2:=c2) (a:=a) (en0:=en) (at0:=(nS s P:Int)) (at1:=(P:Int)) (bad:=bad) (bad0:=bad) (e0:=0) (ends:=ends) (ids:=ids) (hd:=hd) (i:=i0 i1) hsm hends2 s.length (nS s P) [] [] [] [] 0 [] [] (by omega) hQ (by decide) (by decide) (by decide);unfold rV at h1;rw[show vJ []=[] from aRT.1 (a6D []),show rN .str .bool [] sR=false from rfl,show rN .str .bool [] sS=false from rfl,show rN .str .bool [] tD=false from rfl] at h2;dsimp only;rw[h1];rw[h2];unfold qZ;rw[aQi];rcases h3 with⟨P',sr,tg,cm,st,fd,l,m,g1,g2,g3,g4,rfl,rfl,g5,g6,g7⟩ |⟨P',sr,tg,cm,st,fd,l,m,r,g1,g2,g3,rfl,rfl,g4,g5,g6⟩ |⟨r,sr,tg,cm,st,fd,l,m,r9,g1,rfl,g2,rfl,g3,g4⟩
  ·have hQ':=s8 g2;have hpos:P'<nS s P':=B7 (by omega) (by omega);unfold rV sP;dsimp only;rw[Q6 hsm hQ'.2,aQj ⟨g3,g4⟩,CN rfl,aQi,aQj (by omega),aQj (by simp;omega)];exact⟨_,_,rfl,rfl,.inl ⟨nS s P',sr,tg,cm,vJ l,st,fd,by omega,hQ'.2,rfl,rfl,by unfold pQ;omega,by unfold pQ;rw[a6D];omega,by unfold pQ;omega⟩⟩
  ·have hQ':=s8 g2;unfold rV sP;dsimp only;rw[Q6 hsm hQ'.2,aQl g3,wZ (by decide),aQi,aQj (by omega),aQj (by simp;omega)];exact⟨_,_,rfl,rfl,.inr ⟨show (3:Int)≠0 from by decide,g4,g5⟩⟩
  ·unfold rV;dsimp only;rw[VG g1,aQi,aQj (by omega),aQj (by simp;omega)];exact⟨_,_,rfl,rfl,.inr ⟨g1,g3,g4⟩⟩
 ·rw[aQl h0,wZ (by decide),yS (by simp only[aQr,aRg,aQq,AG (show (3:Int)≠0 by decide) (show (3:Int)≠4 by decide)];intro hh;rcases hh with⟨u,v|v⟩;exact absurd v (by decide);exact h0 ⟨u,v⟩)]
  dsimp only;have h:=uL (a6C (s:=s) (at0:=(nS s P:Int)) (c:=c) (ends:=ends) (en0:=en) (ids:=ids) (hd:=hd) (sr:=[]) (tg:=[]) (cm:=[]) (st:=0) (fd:=[]) (l:=[]) (m:=[]) (r:=((nS s P:Int),kS s P,xS s P,(fS s P:Int),(nS s P:Int),(fS s P:Int),3,en)) (show (3:Int)≠0 from by decide));unfold rV at h;dsimp only at h;rw[h,uL (QA (show (3:Int)≠0 from by decide))];unfold qZ;rw[aQi];dsimp only;rw[VG (by decide),aQi,aQj (by decide),aQj (by simp;omega)];exact⟨_,_,rfl,rfl,.inr ⟨show (3:Int)≠0 from by decide,rfl,rfl⟩⟩
end
section
variable {s:List UInt8}(hsm:s.length<=4000000000) {P:Nat}(hP:P<=s.length) {c2:C4}{bad e:Int}{i1:List UInt8}{ends2:List Int}{hd:Bool}{i:rG}
include hsm hP
theorem MJ (he:e≠0): ∃ro,wQ (s,((P:Int),(bad,(e,(c2,(ends2,())))))) i hd=some ro/\ro.2.1=bad/\ro.2.2.1=e:=by
 unfold wQ;rw[Q9 hsm hP he,aQi];dsimp only;rw[uL (QA he)];exact⟨_,rfl,rfl,rfl⟩
end
def a6G (es:List rG) (x:List UInt8):Int×Bool:=tQ (fun k=>((k:Int),true)) ((0:Int),false) (es.findIdx? fun y=>decide (y.1=x))
theorem a6H (es:List rG) (x:List UInt8):(a6G es x).2=es.any fun y=>decide (y.1=x):=by
 rw[<-a6f];unfold a6G;cases es.findIdx? fun y=>decide (y.1=x)<;>rfl
theorem a6I (c:C4) (x:List UInt8) (hl:c.2.2.2.1.length<=5000):TH c x=some (a6G c.2.2.2.1 x):=by
 have h:=CG (f:=TG c x) (l:=c.2.2.2.1) (fun y=>decide (y.1=x)) (fun k=>((k:Int),true)) (fun i h=>by
  unfold TG;rw[aQj (tH h),aQj (rT h),zY (t:=uB) h,aQj (sD (by omega))]) (by
  unfold TG;rw[aQl (vN _)])
 unfold TH;rw[h,EI];rfl
def MK (ids:List (List UInt8×Bool)) (es:List rG):Prop:= ∀x,rN .str .bool ids x=es.any fun y=>decide (y.1=x)
theorem aE2 {ids:List (List UInt8×Bool)}{es:List rG}(h:MK ids es) (e:rG) (x:List UInt8) (he:e.1=x):MK (sG .str .bool x true ids) (es++[e]):=by
 intro y;rw[DL,List.any_append,<-h y];by_cases hy:y=x
 ·rw[aQj hy];simp [he,hy]
 ·rw[aQl hy];have:decide (e.1=y)=false:=by rw[he];simpa using fun hh=>hy hh.symm
  simp [this]
abbrev E11:=Int×Int×List UInt8×Int×Int×Int×Int×List rG×List Int×Int×List (List UInt8×Bool)
abbrev E5:=Int×Int×Int×List rG×List Int
def aMA (s:List UInt8) (P:Nat) (a bad:Int) (ends:List Int) (es:List rG) (po:E11) (ro:E5):Prop:=
 ∃(P':Nat) (y:rG) (ids:List (List UInt8×Bool)),P<P'/\P'<=s.length/\es.length<1000/\MK ids (es++[y])/\
  po=((nS s P':Int),kS s P',xS s P',(fS s P':Int),(nS s P':Int),a,0,es++[y],ends++[(P':Int)],(P':Int),ids)/\
  ro=((P':Int),bad,0,es++[y],ends++[(P':Int)])/\VL y
def aE3 (po:E11) (ro:E5):Prop:=po.2.2.2.2.2.2.1≠0/\ro.2.1=po.2.2.2.2.2.1/\ro.2.2.1=po.2.2.2.2.2.2.1
section
variable {s:List UInt8}(hsm:s.length<=4000000000) {P:Nat}(hP:P<=s.length) {a en bad:Int}{t1 t2:List UInt8}{cm1 cm2:List (List UInt8)}{fd1 fd2:List qY}{es:List rG}{ends:List Int}(hends:ends.length<=5000) {ids:List (List UInt8×Bool)}(hids:MK ids es) (hes:es.length<=1000)
include hsm hP hends hids hes
theorem YZ: ∃po ro,xL (s,((nS s P:Int),())) (kS s P,(xS s P,((fS s P:Int),((nS s P:Int),())))) a 0 (t1,(cm1,(fd1,(es,())))) (ends,(en,())) ids=some po/\
  HH (s,((P:Int),(bad,(0,((t2,(cm2,(fd2,(es,())))),(ends,()))))))=some ro/\(aMA s P a bad ends es po ro\/aE3 po ro):=by
 have hQ:=(s8 hP).2;have hR:=(s8 hQ).2;unfold xL HH;rw[Q6 hsm hQ,aQi,EM hsm hP,aQi];by_cases h0:kS s P=2/\xS s P=[101,110,116,114,121]
 ·have hPQ:P<nS s P:=B7 (by omega) (by omega);rw[aQj h0,CN rfl,w4 (by rw[(AG (by decide) (by decide)).2 h0.1,h0.2];decide)];unfold sP;dsimp only;rw[aLU hsm hR,aQi,BY hsm hQ (by decide) (by decide),aQi,hids (xS s (nS s P))];by_cases hk1:kS s (nS s P)=1
  ·have hQR:nS s P<nS s (nS s P):=B7 (by omega) (by omega);rw[w4 (by simpa using hk1)];dsimp only;rw[aQl (show¬(!decide ((0:Int)=0))=true from by decide),a6I _ _ (show es.length<=5000 by omega),aQi,a6H];dsimp only;by_cases hid:DJ (xS s (nS s P))=true
   ·have hid': ¬(decide (xS s (nS s P)=[])||decide ((200:Int)<((xS s (nS s P)).length:Int)))=true:=by
     unfold DJ at hid;simp at hid⊢;omega
    have hb: ¬(decide (kS s (nS s P)≠1)|| !DJ (xS s (nS s P)))=true:=by simp [hk1,hid]
    rw[aQl hid'];by_cases hdup:(es.any fun y=>decide (y.1=xS s (nS s P)))=true
    ·rw[aQj hdup,MF hb hdup,wZ (by decide)];unfold rE;rw[wH];obtain⟨po,hpo,h1,h2⟩:=HP (s:=s) (at0:=(nS s (nS s P):Int)) (c:=(t1,(cm1,(fd1,(es,()))))) (a:=(fS s (nS s P):Int)) (en:=(nS s P:Int)) (k:=kS s (nS s P)) (x:=xS s (nS s P)) (f:=(fS s (nS s P):Int)) (t:=(nS s (nS s P):Int)) (ids:=sG .str .bool (xS s (nS s P)) true ids) (hd:=true) hends (show (9:Int)≠0 by decide);dsimp only;rw[hpo,aQi,aQj (by simp;omega)];exact⟨_,_,rfl,rfl,.inr ⟨by show po.2.2.2.2.2.2.2.2.2.2.2.2.1≠0;rw[h2];decide,h1.symm,h2.symm⟩⟩
    ·rw[aQl hdup];by_cases hm:es.length=1000
     ·rw[aQj (show decide ((1000:Int)<=(es.length:Int))=true from by simp;omega),MG hb hdup (by simp;omega),wZ (by decide)];unfold rE;rw[wH];obtain⟨po,hpo,h1,h2⟩:=HP (s:=s) (at0:=(nS s (nS s P):Int)) (c:=(t1,(cm1,(fd1,(es,()))))) (a:=(fS s (nS s P):Int)) (en:=(nS s P:Int)) (k:=kS s (nS s P)) (x:=xS s (nS s P)) (f:=(fS s (nS s P):Int)) (t:=(nS s (nS s P):Int)) (ids:=sG .str .bool (xS s (nS s P)) true ids) (hd:=true) hends (show (6:Int)≠0 by decide);dsimp only;rw[hpo,aQi,aQj (by simp;omega)];exact⟨_,_,rfl,rfl,.inr ⟨by show po.2.2.2.2.2.2.2.2.2.2.2.2.1≠0;rw[h2];decide,h1.symm,h2.symm⟩⟩
     ·rw[aQl (show¬decide ((1000:Int)<=(es.length:Int))=true from by simp;omega),CL hb hdup (by simp;omega),CN rfl];unfold sP;dsimp only;obtain⟨po,ro,hpo,hro,h5⟩:=aE1 (c:=(t1,(cm1,(fd1,(es,()))))) (c2:=(t2,(cm2,(fd2,(es,()))))) (a:=a) (en:=(nS s (nS s P):Int)) (bad:=bad) (i1:=xS s (nS s P)) (ids:=sG .str .bool (xS s (nS s P)) true ids) (hd:=true) hsm hR hends hends;rw[hpo,aQi,aQj (by simp;omega),show (false)= !true from rfl,hro,aQi,aQj (by simp;omega),aQj (by simp;omega)];refine⟨_,_,rfl,rfl,?_⟩;rcases h5 with⟨P',sr,tg,cm,fg,st,fd,g1,g2,rfl,rfl,f1,f2,f3⟩ |⟨g1,g2,g3⟩
      ·exact .inl ⟨P',_,_,by omega,g2,by omega,aE2 hids _ _ rfl,rfl,rfl,f1,f2,f3⟩
      ·exact .inr ⟨g1,g2,g3⟩
   ·have hid':(decide (xS s (nS s P)=[])||decide ((200:Int)<((xS s (nS s P)).length:Int)))=true:=by
     unfold DJ at hid;simp at hid⊢;by_cases hh:xS s (nS s P)=[]<;>simp_all
    rw[aQj hid',yR (by simp [hid]),wZ (by decide)];unfold rE;rw[wH];obtain⟨po,hpo,h1,h2⟩:=HP (s:=s) (at0:=(nS s (nS s P):Int)) (c:=(t1,(cm1,(fd1,(es,()))))) (a:=(fS s (nS s P):Int)) (en:=(nS s P:Int)) (k:=kS s (nS s P)) (x:=xS s (nS s P)) (f:=(fS s (nS s P):Int)) (t:=(nS s (nS s P):Int)) (ids:=sG .str .bool (xS s (nS s P)) true ids) (hd:=true) hends (show (3:Int)≠0 by decide);dsimp only;rw[hpo,aQi,aQj (by simp;omega)];exact⟨_,_,rfl,rfl,.inr ⟨by show po.2.2.2.2.2.2.2.2.2.2.2.2.1≠0;rw[h2];decide,h1.symm,h2.symm⟩⟩
  ·rw[yS (by simpa using hk1),yR (by simp [hk1]),wZ (by decide)];dsimp only;rw[aQj (show (!decide ((3:Int)=0))=true from by decide)];obtain⟨po,hpo,h1,h2⟩:=HP (s:=s) (at0:=(nS s (nS s P):Int)) (c:=(t1,(cm1,(fd1,(es,()))))) (a:=(fS s (nS s P):Int)) (en:=(nS s P:Int)) (k:=kS s (nS s P)) (x:=xS s (nS s P)) (f:=(fS s (nS s P):Int)) (t:=(nS s (nS s P):Int)) (ids:=sG .str .bool (xS s (nS s P)) true ids) (hd:=true) hends (show (3:Int)≠0 by decide);rw[hpo,aQi,aQj (by simp;omega)];exact⟨_,_,rfl,rfl,.inr ⟨by show po.2.2.2.2.2.2.2.2.2.2.2.2.1≠0;rw[h2];decide,h1.symm,h2.symm⟩⟩
 ·rw[aQl h0,wZ (by decide),yS (by simp only[aQr,aRg,aQq,AG (show (2:Int)≠0 by decide) (show (2:Int)≠4 by decide)];intro hh;rcases hh with⟨u,v|v⟩;exact absurd v (by decide);exact h0 ⟨u,v⟩)]
  dsimp only;rw[aLV (by decide),aQi,Q9 hsm hP (by decide),aQi];dsimp only;rw[aQj (show (!decide ((3:Int)=0))=true from by decide)];obtain⟨po,hpo,h1,h2⟩:=HP (s:=s) (at0:=(nS s P:Int)) (c:=(t1,(cm1,(fd1,(es,()))))) (a:=(fS s P:Int)) (en:=en) (k:=kS s P) (x:=xS s P) (f:=(fS s P:Int)) (t:=(nS s P:Int)) (ids:=sG .str .bool (xS s P) true ids) (hd:=true) hends (show (3:Int)≠0 by decide);rw[hpo,aQi,aQj (by simp;omega)];exact⟨_,_,rfl,rfl,.inr ⟨by show po.2.2.2.2.2.2.2.2.2.2.2.2.1≠0;rw[h2];decide,h1.symm,h2.symm⟩⟩
end
abbrev eD:tI:=([],([],([],([],([],(0,([],())))))))
def G6 (es:List tI) (i:Nat):Bool:=((es.take i).any fun y=>decide (y.1=(es.getD i eD).1))|| !y4 (es.getD i eD)
def wI (c:C4):Bool:=((tO c.1&&xM c.2.1)&&wT c.2.2.1)&&(decide ((c.2.2.2.1.length:Int)<=1000)&& !((List.range c.2.2.2.1.length).any (G6 c.2.2.2.1)))
theorem aE4 {l:List tI}{i:Nat}:pZ uB l (i:Int)=l.getD i eD:=by unfold pZ;rw[aQ2];rfl
structure a6K (c:C4):Prop where
 tag:pQ c.1
 com:pQ c.2.1/\∀y∈c.2.1,pQ y
 fld:pQ c.2.2.1/\∀y∈c.2.2.1,UX y
 len:c.2.2.2.1.length<=5000
 ent: ∀x∈c.2.2.2.1,a6q x
theorem aE5 {α:Type}{l:List α}{i:Nat}{d:α}(h:i<l.length):l.take (i+1)=l.take i++[l.getD i d]:=by
 rw[List.take_add_one,aQs h,aQI,aQs h];rfl
theorem aE6 {c:C4}(hc:a6K c): ∀(n i:Nat) (m:List (List UInt8×Bool)),i+n=c.2.2.2.1.length->MK m (c.2.2.2.1.take i)->
  pU (JG c) ((i:Int),m)=some (if (List.range' i n).any (G6 c.2.2.2.1)=true then .inr false else .inl ())
 |0,i,m,hi,_=>by
  have:i=c.2.2.2.1.length:=by omega
  subst this;refine wO ?_;unfold JG;dsimp only;rw[aQl (vN _)];rfl
 |n+1,i,m,hi,hm=>by
  have h:i<c.2.2.2.1.length:=by omega
  have he:=hc.ent _ (PT (d:=eD) h);have hl:=hc.len;have hst:JG c ((i:Int),m)=if G6 c.2.2.2.1 i=true then some (.inr (.inr false)) else some (.inl (((i+1:Nat):Int),sG .str .bool (c.2.2.2.1.getD i eD).1 true m)):=by
   unfold JG;dsimp only;rw[aQj (tH h),aQj (rT h),aE4,hm,aLc _ he,aQj EK,aQj (sD (by omega))];rfl
  rw[aR4,List.any_cons];by_cases hb:G6 c.2.2.2.1 i=true
  ·rw[aQj hb] at hst;rw[hb,Bool.true_or,aQj rfl];exact wO hst
  ·rw[aQl hb] at hst;rw[IQ hst,aE6 hc n (i+1) _ (by omega) (by rw[aE5 (d:=eD) h];exact aE2 hm _ _ rfl)];simp only[aRl] at hb;rw[hb,Bool.false_or]
theorem aMB {c:C4}(hc:a6K c):JH c=some (wI c):=by
 obtain⟨t1,t2⟩:=aEh _ hc.com.1 hc.com.2;have e2:=aEl _ hc.fld.1 hc.fld.2;have hlp:=aE6 hc c.2.2.2.1.length 0 [] (by omega) (fun x=>by rfl);rw[<-List.range_eq_range'] at hlp;have hlp':pU (JG c) ((0:Int),[])=_:=hlp;have a1:decide ((1000:Int)<(c.2.2.2.1.length:Int))= !decide ((c.2.2.2.1.length:Int)<=1000):=by rw[<-decide_not];exact aSg.2 (by omega)
 unfold JH;rw[a6e,aQi,t1,t2,e2,aQj EK,aQj EK,hlp',a1];unfold wI;show (if (((!tO c.1)||(!xM c.2.1))||(!wT c.2.2.1)||_)=true then some false else _)=_
 generalize tO c.1=b1;generalize xM c.2.1=b2;generalize wT c.2.2.1=b3;generalize decide ((c.2.2.2.1.length:Int)<=1000)=b4;generalize (List.range c.2.2.2.1.length).any (G6 c.2.2.2.1)=b5;cases b1<;>cases b2<;>cases b3<;>cases b4<;>cases b5<;>rfl
def G7 (l:List (List UInt8)):Prop:=l.length<=6000/\∀x∈l,x.length<=6000
def JT (l:List qY):Prop:=l.length<=6000/\∀x∈l,x.1.length<=6000/\x.2.1.length<=6000
structure ML (x:tI):Prop where
 id:x.1.length<=6000
 src:x.2.1.length<=6000
 tgt:x.2.2.1.length<=6000
 com:G7 x.2.2.2.1
 flg:G7 x.2.2.2.2.1
 fld:JT x.2.2.2.2.2.2.1
structure HR (c:C4):Prop where
 tag:c.1.length<=100
 com:G7 c.2.1
 fld:JT c.2.2.1
 len:c.2.2.2.1.length<=1000
 ent: ∀x∈c.2.2.2.1,ML x
theorem HS {l:List UInt8}(h:l.length<=6000):pQ l:=by unfold pQ;omega
theorem a6L {l:List (List UInt8)}(h:G7 l):pQ l/\∀y∈l,pQ y:=⟨by have:=h.1;unfold pQ;omega,fun y hy=>HS (h.2 y hy)⟩
theorem aE7 {l:List qY}(h:JT l):pQ l/\∀y∈l,UX y:=⟨by have:=h.1;unfold pQ;omega,fun y hy=>⟨HS (h.2 y hy).1,HS (h.2 y hy).2⟩⟩
theorem ML.fitP {x:tI}(h:ML x):a6q x:=⟨HS h.id,HS h.src,HS h.tgt,a6L h.com,a6L h.flg,aE7 h.fld⟩
theorem HR.fitP {c:C4}(h:HR c):a6K c:=⟨HS (by have:=h.tag;omega),a6L h.com,aE7 h.fld,by have:=h.len;omega,fun x hx=>(h.ent x hx).fitP⟩
theorem aE8 {σ ρ α:Type}{f:σ->Option (σ⊕ρ)}(st:Int->List α->σ) (out:List α->ρ) {n M B:Nat}(g:Nat->List α) (hg: ∀i,i<n->(g i).length<=B)
  (hf: ∀(i:Nat) s,i<n->s.length+B<=M->f (st i s)=some (.inl (st ((i:Int)+1) (s++g i)))) (he: ∀s,f (st n s)=some (.inr (out s))):
  ∀(k i:Nat) (s:List α),i+k=n->s.length+k*B<=M->pU f (st i s)=some (out (s++(List.range' i k).flatMap g))
 |0,i,s,hi,_=>by
  have:i=n:=by omega
  subst this;rw[wO (he s)];simp
 |k+1,i,s,hi,hM=>by
  rw[aRn] at hM;have hgi:=hg i (by omega);rw[IQ (hf i s (by omega) (by omega)),show ((i:Int)+1)=((i+1:Nat):Int) by omega,aE8 st out g hg hf he k (i+1) (s++g i) (by omega) (by rw[aQm];omega),aR4,aRJ,aQt]
theorem aE9 {α:Type}{g:Nat->List α}{B:Nat}: ∀(k i:Nat),(∀j,i<=j->j<i+k->(g j).length<=B)->((List.range' i k).flatMap g).length<=k*B
 |0,i,_=>by simp
 |k+1,i,h=>by
  rw[aR4,aRJ,aQm,aRn];have h1:=aE9 k (i+1) fun j h1 h2=>h j (by omega) (by omega);have h2:=h i (by omega) (by omega);omega
theorem QB {σ ρ α:Type}{f:σ->Option (σ⊕ρ)}(st:Int->List α->σ) (out:List α->ρ) {n M B:Nat}(g:Nat->List α) (hg: ∀i,i<n->(g i).length<=B) (s:List α) (hM:s.length+n*B<=M)
  (hf: ∀(i:Nat) s,i<n->s.length+B<=M->f (st i s)=some (.inl (st ((i:Int)+1) (s++g i)))) (he: ∀s,f (st n s)=some (.inr (out s))):
  pU f (st 0 s)=some (out (s++(List.range' 0 n).flatMap g)):=aE8 st out g hg hf he n 0 s (by omega) hM
theorem VM {α β:Type}{l:List α}{d:α}(h:α->List β):(List.range' 0 l.length).flatMap (fun i=>h (l.getD i d))=l.flatMap h:=by
 have e:(List.range' 0 l.length).map (fun i=>l.getD i d)=l:=by
  apply List.ext_getElem
  ·simp
  ·intro i h1 h2;simp [aQI,h2]
 conv=>rhs;rw[<-e]
 rw[List.flatMap_map]
theorem HT {α β:Type}{l:List α}{h:α->List β}{B:Nat}(hb: ∀x∈l,(h x).length<=B):(l.flatMap h).length<=l.length*B:=by
 induction l with
 |nil=>simp
 |cons x l ih=>
  rw[aRJ,aQm,aQp,aRn];have h1:=hb x aQH;have h2:=ih fun y hy=>hb y (aQy _ hy);omega
def uD (n b:Nat) (first:Bool):List UInt8:=(FQ (n:Int) (b:Int) first).getD []
theorem aMC:((List.range 256).all fun b=>[true,false].all fun f=>decide (FQ 3 (b:Int) f=some (uD 3 b f))&&(decide (U4 3 (b:Int) f=some (uD 3 b f))&&decide ((uD 3 b f).length<=6)))=true:=by kernel_rfl
theorem aMD:((List.range 256).all fun b=>[true,false].all fun f=>decide (FQ 1 (b:Int) f=some (uD 1 b f))&&(decide (U4 1 (b:Int) f=some (uD 1 b f))&&decide ((uD 1 b f).length<=6)))=true:=by kernel_rfl
theorem aFa {n b:Nat}(hn:n=1\/n=3) (hb:b<256) (f:Bool):FQ (n:Int) (b:Int) f=some (uD n b f)/\U4 (n:Int) (b:Int) f=some (uD n b f)/\(uD n b f).length<=6:=by
 have hf:f∈[true,false]:=by cases f<;>simp
 rcases hn with rfl|rfl
 ·have h:=aRh.1 (aRh.1 aMD b (by simpa using hb)) f hf;simpa using h
 ·have h:=aRh.1 (aRh.1 aMC b (by simpa using hb)) f hf;simpa using h
def JU (n:Nat) (s:List UInt8) (i:Nat):List UInt8:=uD n (s.getD i 0).toNat (decide (i=0))
def zQ (n:Nat) (s:List UInt8):List UInt8:=(List.range' 0 s.length).flatMap (JU n s)
theorem aFb {n:Nat}(hn:n=1\/n=3) (s:List UInt8) (i:Nat):(JU n s i).length<=6:=(aFa hn (UInt8.toNat_lt _) _).2.2
theorem aFc {n:Nat}(hn:n=1\/n=3) (s:List UInt8):(zQ n s).length<=6*s.length:=by
 have:=aE9 (g:=JU n s) (B:=6) s.length 0 fun j _ _=>aFb hn s j;unfold zQ;omega
theorem aME {s:List UInt8}{i:Nat}:pL s (i:Int)=((s.getD i 0).toNat:Int):=by unfold pL;rw[aQ2]
theorem aMF {i:Nat}:decide ((i:Int)=0)=decide (i=0):=aSg.2 (by omega)
theorem aMG {l:List Nat}{g:Nat->List UInt8}:l.flatMap (fun i=>sE (g i))=sE (l.flatMap g):=by
 induction l with
 |nil=>rfl
 |cons x l ih=>rw[aRJ,aRJ,V5,ih]
theorem aFd (l:List UInt8):(sE l).length=l.length:=by simp [sE]
theorem aMH {n:Nat}(hn:n=1\/n=3) {s:List UInt8}(hs:pQ s):HA (n:Int) s=some (zQ n s):=by
 unfold pQ at hs;have hn4: ¬decide ((n:Int)=4)=true:=by simp;omega
 have h:=QB (f:=OZ (n:Int) s) (fun i b=>(i,b)) (fun b=>b) (n:=s.length) (M:=10000000000000) (B:=6) (fun i=>sE (JU n s i)) (fun i _=>by rw[aFd];exact aFb hn s i) [] (by simp;omega) (fun i b hi hM=>by
  obtain⟨e1,_,e3⟩:=aFa hn (UInt8.toNat_lt (s.getD i 0)) (decide (i=0));unfold OZ;dsimp only;rw[aQj (tH hi),aQl hn4,aQj (rT hi),aME,aMF,e1,aQi];unfold CH;rw[aQj (by dsimp only;omega),aQi,aQj (sD (by omega))];rfl) (fun b=>by
  unfold OZ;dsimp only;rw[aQl (vN _)])
 unfold HA;rw[aQl (by simp;omega),h,aMG];unfold qZ;rw[aQi,List.nil_append,V6];rfl
def DM (h:List UInt8) (l:List (List UInt8)) (t:List UInt8):List UInt8:=h++(l.flatten++t)
theorem aFe {f:(Int×List UInt8)->List Int->Option (List Int⊕List UInt8)}(hf: ∀it b,b.length+it.2.length<=140737488355328->f it b=some (.inl (b++sE it.2))): ∀(l:List (Int×List UInt8)) (b:List Int),
  b.length+((l.map (·.2)).flatten).length<=140737488355328->D4 f l b=some (.inl (b++sE (l.map (·.2)).flatten))
 |[],b,_=>by simp [D4,sE]
 |it::l,b,h=>by
  simp only[aRt,aRI,aQm] at h;unfold D4;rw[hf it b (by omega),aQi];show D4 f l _=_;rw[aFe hf l _ (by rw[aQm,aFd];omega)];simp only[aRt,aRI,V5,aQt]
theorem aFf (d:tW):((BP d).map (·.2)).flatten=DM d.1 d.2.1 d.2.2.1:=by
 unfold BP DM;have e:(List.range d.2.1.length).map (fun j=>d.2.1.getD j [])=d.2.1:=by
  apply List.ext_getElem
  ·simp
  ·intro i h1 h2;simp [aQI,h2]
 have e2:(((List.range d.2.1.length).map fun j:Nat=>((j:Int)+1,d.2.1.getD j [])).map (·.2))=d.2.1:=by
  rw[List.map_map];exact e
 simp only[aRt,List.map_append,List.map_nil,aRI,List.flatten_append,List.flatten_nil,List.append_nil,e2,aQt]
theorem a6M (d:tW) (hl:d.2.1.length<=900000) (hb:(DM d.1 d.2.1 d.2.2.1).length<=140737488355328):H0 d=some (DM d.1 d.2.1 d.2.2.1):=by
 have h:=aFe (f:=TZ) (fun it b h=>by
  unfold TZ CH;rw[aQj h,aQi]) (BP d) [] (by rw[aFf];simpa using hb)
 unfold H0;rw[aQj (by omega),h,aFf];unfold rZ;dsimp only;rw[aQi];simp only[List.nil_append,V6]
def CO (n:Nat):Bool->List UInt8->List UInt8
 |_,[]=>[]
 |f,b::t=>uD n b.toNat f++CO n false t
theorem aFg (n:Nat): ∀(s:List UInt8) (p:List UInt8),p≠[]->(List.range' p.length s.length).flatMap (JU n (p++s))=CO n false s
 |[],p,_=>by simp [CO]
 |b::t,p,hp=>by
  have hl:0<p.length:=aRH.2 hp;rw[aQp,aR4,aRJ];have h1:JU n (p++b::t) p.length=uD n b.toNat false:=by
   unfold JU;rw[show decide (p.length=0)=false by simp;exact hp];congr 2;rw[aQI,aQv (aQF _),aSl];rfl
  have h2:=aFg n t (p++[b]) (by simp);rw[aQm,aQ0,aQt,aRd] at h2;rw[h1,h2];rfl
theorem aFh (n:Nat) (s:List UInt8):zQ n s=CO n true s:=by
 cases s with
 |nil=>rfl
 |cons b t=>
  unfold zQ;rw[aQp,aR4,aRJ];have h2:=aFg n t [b] (by simp);rw[aQ0,aRd] at h2;rw[aQV,h2];rfl
theorem aMI {e:List UInt8}(t:List UInt8) (h:(wG e).2=e.length) (h0:e≠[]):wG (e++t)=wG e:=by
 match e,h,h0 with
 |[a],h,_=>simp [wG] at h
 |a::c::u,h,_=>
  show wG (a::c::(u++t))=wG (a::c::u);simp only[wG] at h⊢;split
  ·rfl
  ·rename_i h1;rw[aQl h1] at h;split
   ·rfl
   ·rename_i h2;rw[aQl h2] at h;split
    ·rfl
    ·rename_i h3;rw[aQl h3] at h;split
     ·rfl
     ·rename_i h4;rw[aQl h4] at h;by_cases hx:c=120/\2<=u.length
      ·rw[aQj hx,aQj ⟨hx.1,by rw[aQm];omega⟩,aRR hx.2]
      ·rw[aQl hx] at h⊢;by_cases hu:c=117/\4<=u.length
       ·have: ¬(c=120/\2<=(u++t).length):=fun hh=>by
         have:=hu.1.symm.trans hh.1;exact absurd this (by decide)
        rw[aQl this,aQj hu,aQj ⟨hu.1,by rw[aQm];omega⟩,aRR hu.2]
       ·rw[aQl hu] at h;simp at h
theorem aMJ {n:Int}{e:List UInt8}(t:List UInt8) (h:(sI n e).2=e.length) (h0:e≠[]):sI n (e++t)=sI n e:=by
 match e,h,h0 with
 |b::u,h,_=>
  show sI n (b::(u++t))=_;by_cases hb:b=92
  ·rw[M7 hb] at h⊢;rw[M7 hb];exact aMI (e:=b::u) t h (by simp)
  ·by_cases hk:zP n b=true
   ·rw[JO hb hk,JO hb hk]
   ·rw[M8 hb hk,M8 hb hk]
theorem aMK:((List.range 256).all fun b=>[true,false].all fun f=>decide (sI 3 (uD 3 b f)=([b.toUInt8],(uD 3 b f).length))&&(decide (uD 3 b f≠[])&&decide (sA 34 (uD 3 b f++[34])=some (uD 3 b f).length)))=true:=by kernel_rfl
theorem aML:((List.range 256).all fun b=>[true,false].all fun f=>decide (sI 1 (uD 1 b f)=([b.toUInt8],(uD 1 b f).length))&&(decide (uD 1 b f≠[])&&decide (sA 61 (uD 1 b f++[61])=some (uD 1 b f).length)))=true:=by kernel_rfl
def MM (n:Nat):UInt8:=if n=1 then 61 else 34
theorem aFi {n:Nat}(hn:n=1\/n=3) (b:UInt8) (f:Bool):sI (n:Int) (uD n b.toNat f)=([b],(uD n b.toNat f).length)/\uD n b.toNat f≠[]/\sA (MM n) (uD n b.toNat f++[MM n])=some (uD n b.toNat f).length:=by
 have hf:f∈[true,false]:=by cases f<;>simp
 have hb:b.toNat<256:=UInt8.toNat_lt b;have hbb:b.toNat.toUInt8=b:=by simp
 rcases hn with rfl|rfl
 ·have h:=aRh.1 (aRh.1 aML b.toNat (by simpa using hb)) f hf;simp only[aQr,aQq,hbb] at h;exact⟨h.1,h.2.1,h.2.2⟩
 ·have h:=aRh.1 (aRh.1 aMK b.toNat (by simpa using hb)) f hf;simp only[aQr,aQq,hbb] at h;exact⟨h.1,h.2.1,h.2.2⟩
theorem aFj {n:Nat}(hn:n=1\/n=3): ∀(s:List UInt8) (f:Bool) (k:Nat),(CO n f s).length<=k->vZ (n:Int) k (CO n f s)= .inl s
 |[],f,k,_=>by
  cases k<;>rfl
 |b::t,f,k,hk=>by
  obtain⟨h1,h2,_⟩:=aFi hn b f;unfold CO at hk⊢;obtain⟨e,he⟩: ∃e,uD n b.toNat f=e:=⟨_,rfl⟩;rw[he] at h1 h2 hk⊢;have hp:=aMJ (CO n false t) (by rw[h1]) h2;rw[h1] at hp;rw[aQm] at hk;have hl:0<e.length:=aRH.2 h2;obtain⟨k',rfl⟩: ∃k',k=k'+1:=⟨k-1,by omega⟩;obtain⟨a,u,rfl⟩: ∃a u,e=a::u:=by
   cases e with
   |nil=>exact absurd rfl h2
   |cons a u=>exact⟨a,u,rfl⟩
  rw[List.cons_append] at hp⊢;unfold vZ;rw[hp,aQl (by simp)];dsimp only;rw[<-List.cons_append,aRY,aFj hn t false k' (by omega)];rfl
theorem aMM {n:Nat}(hn:n=1\/n=3) (s:List UInt8):y6 (n:Int) (zQ n s)=(s,0,0):=by
 unfold y6;rw[aFh,aFj hn s true _ (aQF _)]
theorem a6N {d:UInt8}: ∀(m:Nat) (e t:List UInt8),e.length<=m->sA d (e++[d])=some e.length->sA d (e++t)=(sA d t).map (· +e.length)
 |_,[],t,_,_=>by simp
 |0,_::_,_,h,_=>by simp at h
 |m+1,b::u,t,hm,h=>by
  rw[List.cons_append] at h⊢;rw[aQp] at hm;by_cases hb:b=d
  ·rw[UZ hb] at h;simp at h
  ·by_cases h9:b=92
   ·rw[V0 hb h9] at h;rw[V0 hb h9];cases u with
    |nil=>simp [UY] at h
    |cons c v=>
     simp only[List.cons_append,aSk,aRA] at h⊢;rw[aQp] at hm;have h':sA d (v++[d])=some v.length:=by
      cases hq:sA d (v++[d]) with
      |none=>rw[hq] at h;cases h
      |some k=>rw[hq] at h;simp at h;rw[h]
     rw[a6N m v t (by omega) h',Option.map_map];congr 1
   ·rw[V1 hb h9] at h;rw[V1 hb h9];have h':sA d (u++[d])=some u.length:=by
     cases hq:sA d (u++[d]) with
     |none=>rw[hq] at h;cases h
     |some k=>rw[hq] at h;simp at h;rw[h]
    rw[a6N m u t (by omega) h',Option.map_map];congr 1
theorem aFk {n:Nat}(hn:n=1\/n=3): ∀(s:List UInt8) (f:Bool) (t:List UInt8),sA (MM n) (CO n f s++t)=(sA (MM n) t).map (· +(CO n f s).length)
 |[],f,t=>by simp [CO]
 |b::u,f,t=>by
  obtain⟨_,_,h3⟩:=aFi hn b f;unfold CO;rw[aQt,a6N _ _ _ (aQF _) h3,aFk hn u false t,Option.map_map];congr 1;funext k;simp only[Function.comp,aQm];omega
theorem aMN {n:Nat}(hn:n=1\/n=3) (s z:List UInt8):sA (MM n) (zQ n s++MM n::z)=some (zQ n s).length:=by
 rw[aFh,aFk hn,UZ rfl];simp
abbrev H12:=Int×Int×List UInt8×Int×Int×Int×Int×List UInt8×List (List UInt8)×List qY×List Int×Int
abbrev H7:=Int×Int×Int×List UInt8×List (List UInt8)×List qY×List Int
def aMO (s:List UInt8) (P:Nat) (a bad:Int) (ends:List Int) (po:H12) (ro:H7):Prop:=
 ∃(P':Nat) (tag:List UInt8) (cm:List (List UInt8)) (fd:List qY),P<P'/\P'<=s.length/\
  po=((nS s P':Int),kS s P',xS s P',(fS s P':Int),(nS s P':Int),a,0,tag,cm,fd,ends++[(P':Int)],(P':Int))/\
  ro=((P':Int),bad,0,tag,cm,fd,ends++[(P':Int)])/\pQ cm/\pQ fd
def aMP (po:H12) (ro:H7):Prop:=po.2.2.2.2.2.2.1≠0/\ro.2.1=po.2.2.2.2.2.1/\ro.2.2.1=po.2.2.2.2.2.2.1
section
variable {s:List UInt8}(hsm:s.length<=4000000000) {P:Nat}(hP:P<=s.length) {a en bad:Int}{c c2:C4}{ends:List Int}(hends:ends.length<=5000) {ids:List (List UInt8×Bool)}
include hsm hP hends
theorem aFl: ∃po ro,xK (s,((nS s P:Int),())) (kS s P,(xS s P,((fS s P:Int),((nS s P:Int),())))) a 0 c (ends,(en,())) ids=some po/\
  EH (s,((P:Int),(bad,(0,(c2,(ends,()))))))=some ro/\(aMO s P a bad ends po ro\/aMP po ro):=by
 have hQ:=(s8 hP).2;have hR:=(s8 hQ).2;unfold xK EH;rw[Q6 hsm hQ,aQi,EM hsm hP,aQi];by_cases h0:kS s P=2/\xS s P=[99,97,116,97,108,111,103]
 ·have hPQ:P<nS s P:=B7 (by omega) (by omega);rw[aQj h0,CN rfl,w4 (by rw[(AG (by decide) (by decide)).2 h0.1,h0.2];decide)];unfold sP;dsimp only;rw[aLO hsm hR,aQi,BY hsm hQ (by decide) (by decide),aQi];by_cases hk1:kS s (nS s P)=1
  ·have hQR:nS s P<nS s (nS s P):=B7 (by omega) (by omega);rw[w4 (by simpa using hk1)];dsimp only;rw[PR _ (MH hsm hQ),aQj wW];by_cases ht:tO (xS s (nS s P))=true
   ·rw[CL (by simp [hk1,ht]) (by simp) (by simp),CN rfl];rw[aQl (show¬(decide ((0:Int)=0)&& !val (some (tO (xS s (nS s P)))))=true from by rw[ht];decide)];unfold sP qZ;rw[aQi];dsimp only;obtain⟨po,ro,hpo,hro,h5⟩:=aE1 (c:=(xS s (nS s P),(c.2.1,(c.2.2.1,(c.2.2.2.1,()))))) (c2:=c2) (a:=a) (en:=(nS s (nS s P):Int)) (bad:=bad) (i1:=[]) (ids:=ids) (hd:=false) hsm hR hends hends;rw[hpo,aQi,show true= !false from rfl,hro,aQi];refine⟨_,_,rfl,rfl,?_⟩;rcases h5 with⟨P',sr,tg,cm,fg,st,fd,g1,g2,rfl,rfl,f1,f2,f3⟩ |⟨g1,g2,g3⟩
    ·exact .inl ⟨P',_,_,_,by omega,g2,rfl,rfl,f1,f3⟩
    ·exact .inr ⟨g1,g2,g3⟩
   ·rw[yR (by simp [ht]),wZ (by decide)];rw[aQj (show (decide ((0:Int)=0)&& !val (some (tO (xS s (nS s P)))))=true from by rw[show tO (xS s (nS s P))=false from by simpa using ht];decide)];unfold rE;rw[wH];unfold qZ;rw[aQi];dsimp only;obtain⟨po,hpo,h1,h2⟩:=HP (s:=s) (at0:=(nS s (nS s P):Int)) (c:=(xS s (nS s P),(c.2.1,(c.2.2.1,(c.2.2.2.1,()))))) (a:=(fS s (nS s P):Int)) (en:=(nS s P:Int)) (k:=kS s (nS s P)) (x:=xS s (nS s P)) (f:=(fS s (nS s P):Int)) (t:=(nS s (nS s P):Int)) (ids:=ids) (hd:=false) hends (show (3:Int)≠0 by decide);obtain⟨ro,hro,g1,g2⟩:=MJ (P:=nS s (nS s P)) (c2:=c2) (bad:=(fS s (nS s P):Int)) (e:=3) (ends2:=ends) (hd:=true) (i:=i0 []) hsm hR (by decide);rw[hpo,aQi,hro,aQi];exact⟨_,_,rfl,rfl,.inr ⟨by show po.2.2.2.2.2.2.2.2.2.2.2.2.1≠0;rw[h2];decide,g1.trans h1.symm,g2.trans h2.symm⟩⟩
  ·rw[yS (by simpa using hk1),yR (by simp [hk1]),wZ (by decide)];dsimp only;rw[PR _ (MH hsm hQ),aQj wW,aQl (show¬(decide ((3:Int)=0)&& !val (some (tO (xS s (nS s P)))))=true from by simp)];unfold qZ;rw[aQi];dsimp only;obtain⟨po,hpo,h1,h2⟩:=HP (s:=s) (at0:=(nS s (nS s P):Int)) (c:=(xS s (nS s P),(c.2.1,(c.2.2.1,(c.2.2.2.1,()))))) (a:=(fS s (nS s P):Int)) (en:=(nS s P:Int)) (k:=kS s (nS s P)) (x:=xS s (nS s P)) (f:=(fS s (nS s P):Int)) (t:=(nS s (nS s P):Int)) (ids:=ids) (hd:=false) hends (show (3:Int)≠0 by decide);obtain⟨ro,hro,g1,g2⟩:=MJ (P:=nS s P) (c2:=c2) (bad:=(fS s (nS s P):Int)) (e:=3) (ends2:=ends) (hd:=true) (i:=i0 []) hsm hQ (by decide);rw[hpo,aQi,hro,aQi];exact⟨_,_,rfl,rfl,.inr ⟨by show po.2.2.2.2.2.2.2.2.2.2.2.2.1≠0;rw[h2];decide,g1.trans h1.symm,g2.trans h2.symm⟩⟩
 ·rw[aQl h0,wZ (by decide),yS (by simp only[aQr,aRg,aQq,AG (show (2:Int)≠0 by decide) (show (2:Int)≠4 by decide)];intro hh;rcases hh with⟨u,v|v⟩;exact absurd v (by decide);exact h0 ⟨u,v⟩)]
  dsimp only;rw[aLP (by decide),aQi,Q9 hsm hP (by decide),aQi];dsimp only;rw[PR _ (MH hsm hP),aQj wW,aQl (show¬(decide ((3:Int)=0)&& !val (some (tO (xS s P))))=true from by simp)];unfold qZ;rw[aQi];dsimp only;obtain⟨po,hpo,h1,h2⟩:=HP (s:=s) (at0:=(nS s P:Int)) (c:=(xS s P,(c.2.1,(c.2.2.1,(c.2.2.2.1,()))))) (a:=(fS s P:Int)) (en:=en) (k:=kS s P) (x:=xS s P) (f:=(fS s P:Int)) (t:=(nS s P:Int)) (ids:=ids) (hd:=false) hends (show (3:Int)≠0 by decide);obtain⟨ro,hro,g1,g2⟩:=MJ (P:=P) (c2:=c2) (bad:=(fS s P:Int)) (e:=3) (ends2:=ends) (hd:=true) (i:=i0 []) hsm hP (by decide);rw[hpo,aQi,hro,aQi];exact⟨_,_,rfl,rfl,.inr ⟨by show po.2.2.2.2.2.2.2.2.2.2.2.2.1≠0;rw[h2];decide,g1.trans h1.symm,g2.trans h2.symm⟩⟩
end
theorem MN {α:Type}:pQ ([]:List α):=by unfold pQ;exact aRc _
theorem aMQ {l:List UInt8}:(uK l).1=4↔l=[]:=by
 cases l with
 |nil=>exact⟨fun _=>rfl,fun _=>rfl⟩
 |cons b t=>
  refine⟨fun h=> ?_,fun h=>by cases h⟩;exfalso;by_cases h1:b=123\/b=125
  ·rw[MB h1] at h;exact absurd h (show¬(3:Int)=4 by decide)
  ·by_cases h2:b=34
   ·rw[MC h1 h2] at h;unfold xO at h;cases he:sA 34 t with
    |none=>rw[he] at h;exact absurd h (show¬(0:Int)=4 by decide)
    |some n=>
     rw[he] at h;dsimp only at h;split at h
     ·exact absurd h (show¬(0:Int)=4 by decide)
     ·exact absurd h (show¬(1:Int)=4 by decide)
   ·by_cases h3:xN b.toNat=true
    ·rw[MD h1 h2 h3] at h;exact absurd h (show¬(2:Int)=4 by decide)
    ·rw[ME h1 h2 h3] at h;exact absurd h (show¬(0:Int)=4 by decide)
theorem k4 {s:List UInt8}{P:Nat}(hP:P<=s.length):kS s P=4↔¬P+(G (s.drop P)).1<s.length:=by
 unfold kS t8;by_cases hg:(G (s.drop P)).2=true
 ·rw[aQj hg];dsimp only;rw[aMQ,aQ9,List.drop_eq_nil_iff];omega
 ·rw[aQl hg];obtain⟨t,ht⟩:=Q2 (s.drop P).length (s.drop P) (aQF _) (by simpa using hg);refine⟨fun h=>absurd h (show¬(0:Int)=4 by decide),fun h=> ?_⟩;rw[aQ9,List.drop_eq_nil_of_le (by omega)] at ht;cases ht
def HU (P:Nat) (ends:List Int):Prop:= ∃l:List Nat,ends=l.map (fun n:Nat=>(n:Int))/\l≠[]/\l.Pairwise (·<=·)/\∀x∈l,x<=P
theorem aMR {P P':Nat}{ends:List Int}(h:HU P ends) (hP:P<=P'):HU P' (ends++[(P':Int)]):=by
 obtain⟨l,rfl,h1,h2,h3⟩:=h;refine⟨l++[P'],by rw[List.map_append];rfl,List.append_ne_nil_of_right_ne_nil _ (List.cons_ne_nil _ _),?_,fun x hx=> ?_⟩
 ·rw[aRD];exact⟨h2,aR1 _ _,fun x hx y hy=>by rw[aQx.1 hy];exact aRj (h3 x hx) hP⟩
 ·rcases aRe.1 hx with hx|hx
  ·exact aRj (h3 x hx) hP
  ·rw[aQx.1 hx];exact aQF _
theorem aFm (P:Nat):HU P [(P:Int)]:=⟨[P],rfl,List.cons_ne_nil _ _,aR1 _ _,fun x hx=>by rw[aQx.1 hx];exact aQF _⟩
theorem aMS {P P':Nat}{ends:List Int}(h:HU P ends) (hP:P<=P'):HU P' ends:=by
 obtain⟨l,h0,h1,h2,h3⟩:=h;exact⟨l,h0,h1,h2,fun x hx=>aRj (h3 x hx) hP⟩
def aMT (n:Nat) (po:E11) (ro:E5):Prop:=
 (po.2.2.2.2.2.2.1=0/\ro.2.2.1=0/\ro.2.2.2.1=po.2.2.2.2.2.2.2.1/\ro.2.2.2.2=po.2.2.2.2.2.2.2.2.1/\po.2.2.2.2.2.2.2.1.length<=1000/\(∀y∈po.2.2.2.2.2.2.2.1,VL y)/\HU n po.2.2.2.2.2.2.2.2.1/\po.2.2.2.2.2.2.2.2.1.length<=1001)\/aE3 po ro
section
variable {s:List UInt8}(hsm:s.length<=4000000000) {a bad:Int}{hp:H12}{hr:H7}
include hsm
theorem a6P: ∀(n P:Nat) (es:List rG) (ends:List Int) (en:Int) (ids:List (List UInt8×Bool)),
  s.length-P<=n->P<=s.length->es.length<=1000->ends.length<=es.length+1->MK ids es->(∀y∈es,VL y)->HU P ends->
  ∃po ro,pU (BW s hp) ((nS s P:Int),kS s P,xS s P,(fS s P:Int),(nS s P:Int),a,0,es,ends,en,ids)=some po/\
   pU (v6 s hr) ((P:Int),bad,0,es,ends)=some ro/\aMT s.length po ro
 |n,P,es,ends,en,ids,hn,hP,hes,hends,hids,hfs,hea=>by
  have hgap:=PZ (JP hsm) hP;by_cases hk:kS s P=4
  ·have hg:=(k4 hP).1 hk;have e1:BW s hp ((nS s P:Int),kS s P,xS s P,(fS s P:Int),(nS s P:Int),a,0,es,ends,en,ids)=some (.inr ((nS s P:Int),kS s P,xS s P,(fS s P:Int),(nS s P:Int),a,0,es,ends,en,ids)):=by
    unfold BW;dsimp only;rw[aQl (by simp [hk])]
   have e2:v6 s hr ((P:Int),bad,0,es,ends)=some (.inr ((P:Int),bad,0,es,ends)):=by
    unfold v6;dsimp only;rw[hgap,aQj wW,aQl (by show¬(decide ((0:Int)=0)&&decide (((P+(G (s.drop P)).1:Nat):Int)<(s.length:Int)))=true;simp;omega)]
   rw[uL e1,uL e2];exact⟨_,_,rfl,rfl,.inl ⟨rfl,rfl,rfl,rfl,hes,hfs,aMS hea hP,(show ends.length<=1001 by omega)⟩⟩
  ·have hg:P+(G (s.drop P)).1<s.length:=by
    by_cases hh:P+(G (s.drop P)).1<s.length
    ·exact hh
    ·exact absurd ((k4 hP).2 hh) hk
   obtain⟨po,ro,hpo,hro,hres⟩:=YZ (a:=a) (en:=en) (bad:=bad) (t1:=hp.2.2.2.2.2.2.2.1) (t2:=hr.2.2.2.1) (cm1:=hp.2.2.2.2.2.2.2.2.1) (cm2:=hr.2.2.2.2.1) (fd1:=hp.2.2.2.2.2.2.2.2.2.1) (fd2:=hr.2.2.2.2.2.1) hsm hP (show ends.length<=5000 by omega) hids hes;have e1:BW s hp ((nS s P:Int),kS s P,xS s P,(fS s P:Int),(nS s P:Int),a,0,es,ends,en,ids)=some (.inl po):=by
    unfold BW;dsimp only;rw[aQj (by simp [hk]),hpo,aQi]
   have e2:v6 s hr ((P:Int),bad,0,es,ends)=some (.inl ro):=by
    unfold v6;dsimp only;rw[hgap,aQj wW,aQj (by show (decide ((0:Int)=0)&&decide (((P+(G (s.drop P)).1:Nat):Int)<(s.length:Int)))=true;simp;omega),hro,aQi]
   rw[B8 e1,B8 e2];rcases hres with⟨P',y,ids',g1,g2,g3,g4,rfl,rfl,g5⟩ |hb
   ·match n,hn with
    |0,hn=>exact absurd g2 (by omega)
    |n+1,hn=>exact a6P n P' (es++[y]) (ends++[(P':Int)]) P' ids' (by omega) g2 (by simp;omega) (by simp;omega) g4 (fun z hz=>by rcases aRe.1 hz with hz|hz;exact hfs z hz;rw[aQx.1 hz];exact g5) (aMR hea (by omega))
   ·have e3:BW s hp po=some (.inr po):=by
     unfold BW;dsimp only;rw[aQl (by simp [hb.1])]
    have e4:v6 s hr ro=some (.inr ro):=by
     have h3:ro.2.2.1≠0:=by rw[hb.2.2];exact hb.1
     unfold v6;dsimp only;rw[aQj (by intro hh;simp [h3] at hh),aQl (by simp [h3])]
    rw[uL e3,uL e4];exact⟨_,_,rfl,rfl,.inr hb⟩
theorem aFn: ∃r v,v8 s=some r/\G2 s=some v/\
  ((r.2.2.2.2.2.2.1=0/\v.2.2.2.2.2.2=0/\v.2.2.2.2.1=r.2.2.2.2.2.2.2.2.2.2.2.1/\HU s.length r.2.2.2.2.2.2.2.2.2.2.2.1/\r.2.2.2.2.2.2.2.2.2.2.2.1.length<=1001)\/(r.2.2.2.2.2.2.1≠0/\v.2.2.2.2.2.2=r.2.2.2.2.2.2.1)):=by
 obtain⟨ph,rh,hph,hrh,hres⟩:=aFl (P:=0) (a:=0) (en:=0) (bad:=0) (c:=([],([],([],([],()))))) (c2:=([],([],([],([],()))))) (ends:=[]) (ids:=[]) hsm (aRc _) (by decide);have hnx:=a6x hsm (aRc s.length);have hnx':B1 (s,((0:Int),()))=some (kS s 0,xS s 0,(fS s 0:Int),(nS s 0:Int),(nS s 0:Int)):=hnx;have hrh':EH (s,((0:Int),((0:Int),((0:Int),((([]:List UInt8),(([]:List (List UInt8)),(([]:List pR),(([]:List rG),())))),(([]:List Int),()))))))=some rh:=hrh;unfold v8 G2;rw[hnx',aQi]
 try dsimp only
 rw[hph,aQi,hrh',aQi];rcases hres with⟨P',tag,cm,fd,g1,g2,rfl,rfl,f1,f2⟩ |hb
 ·obtain⟨po,ro,h1,h2,h3⟩:=a6P (a:=0) (bad:=0) (hp:=((nS s P':Int),kS s P',xS s P',(fS s P':Int),(nS s P':Int),0,0,tag,cm,fd,[]++[(P':Int)],(P':Int))) (hr:=((P':Int),0,0,tag,cm,fd,[]++[(P':Int)])) hsm s.length P' [] ([]++[(P':Int)]) (P':Int) [] (by omega) g2 (by decide) (by simp) (fun _=>rfl) (fun _ h=>by cases h) (aFm P')
  try dsimp only
  rw[h1,h2];unfold qZ;rw[aQi,aQi]
  try dsimp only
  rcases h3 with⟨e1,e2,e3,e4,e5,e6,e7,e8⟩ |⟨e1,e2,e3⟩
  ·rw[aQl (by simp [e2])];exact⟨_,_,rfl,rfl,.inl ⟨e1,rfl,e4,e7,e8⟩⟩
  ·rw[aQj (by simp [e3,e1])];exact⟨_,_,rfl,rfl,.inr ⟨e1,e3⟩⟩
 ·obtain⟨b1,b2,b3⟩:=hb;have e3:BW s ph (ph.1,ph.2.1,ph.2.2.1,ph.2.2.2.1,ph.2.2.2.2.1,ph.2.2.2.2.2.1,ph.2.2.2.2.2.2.1,[],ph.2.2.2.2.2.2.2.2.2.2.1,ph.2.2.2.2.2.2.2.2.2.2.2,[])=some (.inr (ph.1,ph.2.1,ph.2.2.1,ph.2.2.2.1,ph.2.2.2.2.1,ph.2.2.2.2.2.1,ph.2.2.2.2.2.2.1,[],ph.2.2.2.2.2.2.2.2.2.2.1,ph.2.2.2.2.2.2.2.2.2.2.2,[])):=by
   unfold BW
   try dsimp only
   rw[aQl (by simp [b1])]
  have e4:v6 s rh (rh.1,rh.2.1,rh.2.2.1,[],rh.2.2.2.2.2.2)=some (.inr (rh.1,rh.2.1,rh.2.2.1,[],rh.2.2.2.2.2.2)):=by
   have h3:rh.2.2.1≠0:=by rw[b3];exact b1
   unfold v6
   try dsimp only
   rw[aQj (by intro hh;simp [h3] at hh),aQl (by simp [h3])]
  rw[uL e3,uL e4];unfold qZ;rw[aQi,aQi]
  try dsimp only
  rw[aQj (by simp [b3,b1])];exact⟨_,_,rfl,rfl,.inr ⟨b1,b3⟩⟩
end
set_option maxRecDepth 1000000
theorem aMU:M1=some true:=by kernel_rfl
theorem a6Q {σ ρ:Type}{f:σ->Option (σ⊕ρ)}{n:Nat}(st:Nat->σ) {r:ρ}(h: ∀i,i<n->f (st i)=some (.inl (st (i+1)))) (he:f (st n)=some (.inr r)): ∀(k i:Nat),i+k=n->pU f (st i)=some r
 |0,i,hi=>by
  have:i=n:=by omega
  subst this;exact uL he
 |k+1,i,hi=>by
  rw[B8 (h i (by omega))];exact a6Q st h he k (i+1) (by omega)
abbrev pc (s:List UInt8) (l:List Nat) (i:Nat):List UInt8:=pH s ((if i=0 then 0 else l.getD (i-1) 0:Nat):Int) (l.getD i 0:Nat)
abbrev zR (s:List UInt8) (l:List Nat):List (List UInt8):=(List.range l.length).map (pc s l)
abbrev HV (l:List Nat):Nat:=l.getD (l.length-1) 0
section
variable {s:List UInt8}(hsm:s.length<=4000000000) {l:List Nat}(hne:l≠[]) (hs:l.Pairwise (·<=·)) (hle: ∀x∈l,x<=s.length) (hl:l.length<=5000)
theorem VN {i:Nat}(h:i<l.length):pZ (.int .i64) (l.map (fun n:Nat=>(n:Int))) (i:Int)=(l.getD i 0:Nat):=by
 rw[zY (t:= .int .i64) (by simpa using h),List.getElem_map,aQI,aQs h];rfl
include hle in
theorem VO {i:Nat}(h:i<l.length):l.getD i 0<=s.length:=by
 rw[aQI,aQs h];exact hle _ (aRF h)
include hs in
theorem aFo {i j:Nat}(hij:i<j) (h:j<l.length):l.getD i 0<=l.getD j 0:=by
 rw[aQI,aQI,aQs h,aQs (by omega)];exact(aRx.1 hs) i j (by omega) h hij
include hs in
include hsm hne hs hle hl in
include hsm hne hs hle hl in
theorem aMV {r:Int×Int×List UInt8×Int×Int×Int×Int×List UInt8×List (List UInt8)×List pR×List rG×List Int×Int×List (List UInt8×Bool)}(hr:r.2.2.2.2.2.2.2.2.2.2.2.1=l.map (fun n:Nat=>(n:Int))):
  pU (M2 s r) (1,[])=some ((zR s l).drop 1):=by
 have hpos:0<l.length:=aRH.2 hne;have hloop:=a6Q (f:=M2 s r) (n:=l.length-1) (fun i=>(((i+1:Nat):Int),((List.range (i+1)).map (pc s l)).drop 1)) (r:=(zR s l).drop 1)
  (fun i hi=>by
   have h1:=VO hle (show i+1<l.length by omega);have h2:=aFo hs (show i<i+1 by omega) (show i+1<l.length by omega);unfold M2;dsimp only;rw[hr,aRq,aQj (tH (by omega)),aQj (by unfold pB;omega),show (((i+1:Nat):Int)-1)=(i:Int) by omega,aQj (rT (by omega)),aQj (rT (by omega)),VN (show i<l.length by omega),VN (show i+1<l.length by omega),aQj ⟨Int.natCast_nonneg _,Int.ofNat_le.2 h2,Int.ofNat_le.2 h1⟩,aQj (by rw[aQw,aRq,List.length_range,aQ0];omega),aQj (sD (by omega))];rw[List.range_succ (n:=i+1),List.map_append,List.drop_append_of_le_length (by simp)];rfl)
  (by
   unfold M2;dsimp only;rw[hr,aRq,show l.length-1+1=l.length by omega,aQl (vN _)]) (l.length-1) 0 (by omega)
 exact hloop
include hsm hne hs hle hl in
theorem aFp {r:Int×Int×List UInt8×Int×Int×Int×Int×List UInt8×List (List UInt8)×List pR×List rG×List Int×Int×List (List UInt8×Bool)}(h:v8 s=some r) (he:r.2.2.2.2.2.2.1=0) (hr:r.2.2.2.2.2.2.2.2.2.2.2.1=l.map (fun n:Nat=>(n:Int))):
  B5 s=some (pc s l 0,(zR s l).drop 1,pH s (HV l:Nat) (s.length:Int),0):=by
 have hpos:0<l.length:=aRH.2 hne;have h0:=VO hle hpos;have hlast:HV l<=s.length:=VO hle (show l.length-1<l.length by omega);unfold B5;rw[h,aQi,aQl (by simp [he]),aMV hsm hne hs hle hl hr,hr,aRq,aQj ⟨aQ8 _,by omega⟩];have n0:pZ (.int .i64) (l.map (fun n:Nat=>(n:Int))) (0:Int)=(l.getD 0 0:Nat):=VN hpos;have n1:pZ (.int .i64) (l.map (fun n:Nat=>(n:Int))) ((l.length:Int)-1)=(HV l:Nat):=by
  rw[show ((l.length:Int)-1)=((l.length-1:Nat):Int) by omega];exact VN (by omega)
 rw[n0,n1,aQj ⟨aQ8 _,Int.natCast_nonneg _,Int.ofNat_le.2 h0⟩,aQj (by unfold pB;omega),aQj ⟨by omega,by omega⟩,aQj ⟨Int.natCast_nonneg _,Int.ofNat_le.2 hlast,aQ8 _⟩];rfl
end
theorem aMW (d:tW) (h:d.2.1.length<=5000):FP d d=some ([],0):=by
 have hn:((([d.1]:List (List UInt8))++d.2.1)++([d.2.2.1]:List (List UInt8))).length=d.2.1.length+2:=by simp
 have hA:J1 d=some ():=by
  unfold J1;rw[aQj (by simp;omega),aQj (by simp;omega)]
 have hloop:=a6Q (f:=OP d d) (n:=d.2.1.length+2) (fun i=>(([]:List (Int×List UInt8×Unit)),(i:Int))) (r:=[])
  (fun i hi=>by
   unfold OP;dsimp only;rw[hn,aQj (tH hi),aQj (rT hi),aQj (rT hi),aQl (by simp),aQj (sD (by omega))];rfl)
  (by
   unfold OP;dsimp only;rw[hn,aQl (vN _)]) (d.2.1.length+2) 0 (by omega)
 unfold FP;rw[aQl (by simp),hA,aQi,aQi,show (([]:List (Int×List UInt8×Unit)),(0:Int))=(([]:List (Int×List UInt8×Unit)),((0:Nat):Int)) from rfl,hloop];rfl
theorem aMX (d:tW) (h:d.2.1.length<=5000):H9 d d=some true:=by
 unfold H9;rw[aMW d h];rfl
def q3 (s:List UInt8):List UInt8:=([34]++zQ 3 s)++[34]
theorem B9 {s:List UInt8}(h:s.length≤6000):(q3 s).length≤36002:=by
  have:=aFc (n:=3) (.inr rfl) s;simp only[q3,aQm,aQp,aQG];omega
theorem JV {s:List UInt8}(h:s.length≤6000):zZ s=some (q3 s):=by
  have h1:=B9 h;have h2:HA (3:Int) s=some (zQ 3 s):=aMH (n:=3) (.inr rfl) (HS h);unfold q3 at*;simp only[aQm] at h1;unfold zZ;rw[h2,aQi,aQj (by simp only[aQm];omega),aQj (by simp only[aQm];omega)]
theorem vF {l:List UInt8}{n:Nat}(h:l.length≤n) (hn:n≤9223372036854775807):(l.length:Int)≤9223372036854775807:=by omega
theorem QC {l:List (List UInt8)}(h:G7 l) {i:Nat}(hi:i<l.length):(l.getD i []).length≤6000:=h.2 _ (PT hi)
theorem QD {l:List qY}(h:JT l) {i:Nat}(hi:i<l.length):(l.getD i fD).1.length≤6000∧(l.getD i fD).2.1.length≤6000:=h.2 _ (PT hi)
abbrev aMY:List UInt8:=[10,32,32,99,111,109,109,101,110,116,32]
def CP (s:List UInt8):List UInt8:=aMY++q3 s
def AI (l:List (List UInt8)):List UInt8:=l.flatMap CP
theorem aFq {s:List UInt8}(h:s.length≤6000):(CP s).length≤36013:=by
  have:=B9 h;simp only[CP,aQm,aQp,aQG];omega
theorem a6R {l:List (List UInt8)}(h:G7 l):(AI l).length≤216078000:=by
  have:=HT (l:=l) (h:=CP) (B:=36013) fun x hx=>aFq (h.2 x hx);have h1:=h.1;unfold AI
  calc _≤l.length*36013:=this
    _≤6000*36013:=aSd _ h1
theorem aFr {l:List (List UInt8)}(h:G7 l):HC l=some (AI l):=by
  have hl:=h.1
  have k:=QB (f:=PC l) (fun i s=>(s,i)) (fun s=>s) (n:=l.length) (M:=1000000000) (B:=36013) (fun i=>CP (l.getD i [])) (fun i hi=>aFq (QC h hi)) [] (by simp;omega) (fun i s hi hM=>by
    have h1:=B9 (QC h hi);unfold PC;dsimp only;rw[aQj (tH hi),aQj (rT hi),a6p,JV (QC h hi),aQi,aQj (vF (n:=1000000000) (by simp only[aQm,aQp,aQG];omega) (by decide)),aQj (vF (n:=1000000000) (by simp only[aQm,aQp,aQG];omega) (by decide)),aQj (sD (by omega))];rfl) (fun b=>by
    unfold PC;dsimp only;rw[aQl (vN _)])
  unfold HC;rw[k,VM (l:=l) (d:=[]) CP];rfl
abbrev aMZ:List UInt8:=[10,32,32,102,105,101,108,100,32]
def C0 (f:qY):List UInt8:=((aMZ++q3 f.1)++[32])++q3 f.2.1
def xQ (l:List qY):List UInt8:=l.flatMap C0
theorem aFs {f:qY}(h:f.1.length≤6000∧f.2.1.length≤6000):(C0 f).length≤72014:=by
  have h1:=B9 h.1;have h2:=B9 h.2;simp only[C0,aQm,aQp,aQG];omega
theorem VP {l:List qY}(h:JT l):(xQ l).length≤432084000:=by
  have:=HT (l:=l) (h:=C0) (B:=72014) fun x hx=>aFs (h.2 x hx);have h1:=h.1;unfold xQ
  calc _≤l.length*72014:=this
    _≤6000*72014:=aSd _ h1
theorem aFt {l:List qY}(h:JT l):HD l=some (xQ l):=by
  have hl:=h.1
  have k:=QB (f:=PD l) (fun i s=>(s,i)) (fun s=>s) (n:=l.length) (M:=1000000000) (B:=72014) (fun i=>C0 (l.getD i fD)) (fun i hi=>aFs (QD h hi)) [] (by simp;omega) (fun i s hi hM=>by
    have h1:=B9 (QD h hi).1;have h2:=B9 (QD h hi).2;unfold PD;dsimp only;rw[aQj (tH hi),aQj (rT hi),aEj,JV (QD h hi).1,aQi,aQj (vF (n:=1000000000) (by simp only[aQm,aQp,aQG];omega) (by decide)),aQj (vF (n:=1000000000) (by simp only[aQm,aQp,aQG];omega) (by decide)),JV (QD h hi).2,aQi,aQj (vF (n:=1000000000) (by simp only[aQm,aQp,aQG];omega) (by decide)),aQj (vF (n:=1000000000) (by simp only[aQm,aQp,aQG];omega) (by decide)),aQj (sD (by omega))];rfl) (fun b=>by
    unfold PD;dsimp only;rw[aQl (vN _)])
  unfold HD;rw[k,VM (l:=l) (d:=fD) C0];rfl
abbrev aM0:List UInt8:=[10,32,32,102,108,97,103,32]
def BA (s:List UInt8):List UInt8:=aM0++s
def x9 (l:List (List UInt8)):List UInt8:=l.flatMap BA
theorem aFu {s:List UInt8}(h:s.length≤6000):(BA s).length≤6008:=by
  simp only[BA,aQm,aQp,aQG];omega
theorem aFv {l:List (List UInt8)}(h:G7 l):(x9 l).length≤36048000:=by
  have:=HT (l:=l) (h:=BA) (B:=6008) fun x hx=>aFu (h.2 x hx);have h1:=h.1;unfold x9
  calc _≤l.length*6008:=this
    _≤6000*6008:=aSd _ h1
theorem aM1 {x:tI}(h:ML x) (s:List UInt8) (hs:s.length≤500000000):pU (LV x) (s,(0:Int))=some (s++x9 x.2.2.2.2.1):=by
  have hl:=h.flg.1
  have k:=QB (f:=LV x) (fun i s=>(s,i)) (fun s=>s) (n:=x.2.2.2.2.1.length) (M:=1000000000) (B:=6008) (fun i=>BA (x.2.2.2.2.1.getD i [])) (fun i hi=>aFu (QC h.flg hi)) s (by omega) (fun i s hi hM=>by
    have h1:=QC h.flg hi;unfold LV;dsimp only;rw[aQj (tH hi),aQj (rT hi),a6p,aQj (vF (n:=1000000000) (by simp only[aQm,aQp,aQG];omega) (by decide)),aQj (vF (n:=1000000000) (by simp only[aQm,aQp,aQG];omega) (by decide)),aQj (sD (by omega))];rfl) (fun b=>by
    unfold LV;dsimp only;rw[aQl (vN _)])
  rw[k,VM (l:=x.2.2.2.2.1) (d:=[]) BA];rfl
abbrev aFw:List UInt8:=[10,10,101,110,116,114,121,32]
abbrev JW:List UInt8:=[10,32,32,115,111,117,114,99,101,32]
abbrev JX:List UInt8:=[10,32,32,116,97,114,103,101,116,32]
abbrev aM2:List UInt8:=[10,32,32,115,116,97,116,101,32]
def xA (p s:List UInt8):List UInt8:=if s=[] then[] else p++q3 s
def EP (n:Int):List UInt8:=if n=0 then[] else aM2++pZ .str vY n
def G8 (x:tI):List UInt8:=((aFw++q3 x.1)++[32,123])++AI x.2.2.2.1
def DN (x:tI):List UInt8:=G8 x++xA JW x.2.1
def DO (x:tI):List UInt8:=DN x++xA JX x.2.2.1
def JY (x:tI):List UInt8:=DO x++EP x.2.2.2.2.2.1
def tE (x:tI):List UInt8:=((JY x++x9 x.2.2.2.2.1)++xQ x.2.2.2.2.2.2.1)++[10,125]
theorem aFx {p s:List UInt8}(hp:p.length≤10) (h:s.length≤6000):(xA p s).length≤36012:=by
  have:=B9 h;unfold xA;split
  ·simp
  ·rw[aQm];omega
theorem aFy {n:Int}(h0:0≤n) (h1:n≤4):(pZ .str vY n).length≤10:=by
  have:n=0∨n=1∨n=2∨n=3∨n=4:=by omega
  rcases this with rfl|rfl|rfl|rfl|rfl<;>decide
theorem aFz {n:Int}(h0:0≤n) (h1:n≤4):(EP n).length≤19:=by
  have:=aFy h0 h1;unfold EP;split
  ·simp
  ·simp only[aQm,aQp,aQG];omega
section
variable {x:tI}(h:ML x) (h0:0≤x.2.2.2.2.2.1) (h4:x.2.2.2.2.2.1≤4)
include h
theorem aFA:(G8 x).length≤216114012:=by
  have h1:=B9 h.id;have h2:=a6R h.com;simp only[G8,aQm,aQp,aQG];omega
theorem aFB:(DN x).length≤216150024:=by
  have h1:=aFA h;have h2:=aFx (p:=JW) (by decide) h.src;simp only[DN,aQm];omega
theorem aFC:(DO x).length≤216186036:=by
  have h1:=aFB h;have h2:=aFx (p:=JX) (by decide) h.tgt;simp only[DO,aQm];omega
include h0 h4
theorem aFD:(JY x).length≤216186055:=by
  have h1:=aFC h;have h2:=aFz h0 h4;simp only[JY,aQm];omega
theorem aFE:(tE x).length≤900000000:=by
  have h1:=aFD h h0 h4;have h2:=aFv h.flg;have h3:=VP h.fld;simp only[tE,aQm,aQp,aQG];omega
theorem aM3:JE x=some (tE x):=by
  have lA:=aFA h;have lB:=aFB h;have lC:=aFC h;have lD:=aFD h h0 h4;have lf:=aFv h.flg;have lg:=VP h.fld;have li:=aFE h h0 h4;have q1:=B9 h.id;have q2:=B9 h.src;have q4:=B9 h.tgt;have s4:=aFy h0 h4
  have eB:(if (!decide (x.2.1=([]:List UInt8)))=true then(zZ x.2.1).bind fun O=>if ((([10,32,32,115,111,117,114,99,101,32]:List UInt8)++O).length:Int)≤9223372036854775807 then if ((G8 x++(([10,32,32,115,111,117,114,99,101,32]:List UInt8)++O)).length:Int)≤9223372036854775807 then some (G8 x++(([10,32,32,115,111,117,114,99,101,32]:List UInt8)++O)) else none else none else some (G8 x))=some (DN x):=by
    unfold DN xA;by_cases he:x.2.1=[]
    ·rw[aQl (by simp [he]),aQj he,List.append_nil]
    ·rw[aQj (by simp [he]),aQl he,JV h.src,aQi,aQj (vF (n:=1000000000) (by simp only[aQm,aQp,aQG];omega) (by decide)),aQj (vF (n:=1000000000) (by simp only[aQm,aQp,aQG];omega) (by decide))]
  have eC:(if (!decide (x.2.2.1=([]:List UInt8)))=true then(zZ x.2.2.1).bind fun O=>if ((([10,32,32,116,97,114,103,101,116,32]:List UInt8)++O).length:Int)≤9223372036854775807 then if ((DN x++(([10,32,32,116,97,114,103,101,116,32]:List UInt8)++O)).length:Int)≤9223372036854775807 then some (DN x++(([10,32,32,116,97,114,103,101,116,32]:List UInt8)++O)) else none else none else some (DN x))=some (DO x):=by
    unfold DO xA;by_cases he:x.2.2.1=[]
    ·rw[aQl (by simp [he]),aQj he,List.append_nil]
    ·rw[aQj (by simp [he]),aQl he,JV h.tgt,aQi,aQj (vF (n:=1000000000) (by simp only[aQm,aQp,aQG];omega) (by decide)),aQj (vF (n:=1000000000) (by simp only[aQm,aQp,aQG];omega) (by decide))]
  unfold JE;rw[JV h.id,aQi,aQj (vF (n:=1000000000) (by simp only[aQm,aQp,aQG];omega) (by decide)),aQj (vF (n:=1000000000) (by simp only[aQm,aQp,aQG];omega) (by decide)),aFr h.com,aQi];show (if ((G8 x).length:Int)≤_ then _ else _)=_;rw[aQj (vF (n:=1000000000) (by omega) (by decide))];refine(aQW (fun o=>qZ o _) (show _=some (DN x) from eB)).trans ?_;unfold qZ;rw[aQi];refine(aQW (fun o=>Option.bind o _) (show _=some (DO x) from eC)).trans ?_;rw[aQi]
  have eD: ∀K:List UInt8→Option (List UInt8),((if (!decide (x.2.2.2.2.2.1=(0:Int)))=true then
       if 0≤x.2.2.2.2.2.1∧x.2.2.2.2.2.1<(vY.length:Int) then
        if ((([10,32,32,115,116,97,116,101,32]:List UInt8)++(pZ .str vY x.2.2.2.2.2.1)).length:Int)≤9223372036854775807 then
         if ((DO x++(([10,32,32,115,116,97,116,101,32]:List UInt8)++(pZ .str vY x.2.2.2.2.2.1))).length:Int)≤9223372036854775807 then
          some ((DO x++(([10,32,32,115,116,97,116,101,32]:List UInt8)++(pZ .str vY x.2.2.2.2.2.1))))
         else none
        else none
       else none
      else
       some (DO x)).bind K)=K (JY x):=by
    intro K;unfold JY EP;by_cases he:x.2.2.2.2.2.1=0
    ·rw[aQl (by simp [he]),aQj he,List.append_nil,aQi]
    ·rw[aQj (by simp [he]),aQl he,aQj ⟨h0,by show _<(5:Int);omega⟩,aQj (vF (n:=1000000000) (by simp only[aQm,aQp,aQG];omega) (by decide)),aQj (vF (n:=1000000000) (by simp only[aQm,aQp,aQG];omega) (by decide)),aQi]
  refine(eD _).trans ?_;rw[aM1 h _ (by omega),aQi,aFt h.fld,aQi,aQj (vF (n:=1000000000) (by simp only[aQm,aQp,aQG];omega) (by decide)),aQj (vF (n:=1000000000) (by simp only[aQm,aQp,aQG];omega) (by decide))];rfl
end
theorem aM4 {α β:Type}{f:α→β}{l:List α}:l.flatMap (fun x=>[f x])=l.map f:=by
  induction l with
  |nil=>rfl
  |cons x l ih=>rw[aRJ,ih];rfl
abbrev aFF:List UInt8:=[99,97,116,97,108,111,103,32]
def vQ (c:C4):List UInt8:=((((aFF++q3 c.1)++[32,123])++AI c.2.1)++xQ c.2.2.1)++[10,125]
theorem aM5 {c:C4}(hc:HR c):(vQ c).length≤900000000:=by
  have h1:=B9 (s:=c.1) (by have:=hc.tag;omega);have h2:=a6R hc.com;have h3:=VP hc.fld;simp only[vQ,aQm,aQp,aQG];omega
theorem a6S {c:C4}(hok:wI c=true) {i:Nat}(hi:i<c.2.2.2.1.length):y4 (c.2.2.2.1.getD i eD)=true:=by
  unfold wI at hok;simp only[aQr,aQO,aQ7,aR5] at hok;have:=hok.2.2 i hi;unfold G6 at this;simp only[aRg,aQO,not_or,Bool.not_eq_false] at this;exact this.2
theorem VQ {x:tI}(h:y4 x=true):0≤x.2.2.2.2.2.1∧x.2.2.2.2.2.1≤4:=by
  unfold y4 at h;simp only[aQr,aQq] at h;exact h.1.2
theorem aFG {c:C4}(hc:HR c):DC c=some (if wI c=true then(vQ c,c.2.2.2.1.map tE,[10],0) else([],[],[],1)):=by
  unfold DC;rw[aMB hc.fitP,aQi];by_cases hok:wI c=true
  · have hl:=hc.len
    have q1:=B9 (s:=c.1) (by have:=hc.tag;omega);have h2:=a6R hc.com;have h3:=VP hc.fld
    have k:=QB (f:=PJ c) (fun i b=>(i,b)) (fun b=>b) (n:=c.2.2.2.1.length) (M:=1000000) (B:=1) (fun i=>[tE (c.2.2.2.1.getD i eD)]) (fun i hi=>by simp) [] (by simp;omega) (fun i b hi hM=>by
      obtain⟨r0,r4⟩:=VQ (a6S hok hi);unfold PJ;dsimp only;rw[aQj (tH hi),aQj (rT hi),aE4,aM3 (hc.ent _ (PT hi)) r0 r4,aQi,aQj (by simp;omega),aQj (sD (by omega))]) (fun b=>by
      unfold PJ;dsimp only;rw[aQl (vN _)])
    rw[hok,aQl (by decide),aQj rfl,JV (by have:=hc.tag;omega),aQi,aQj (vF (n:=1000000000) (by simp only[aQm,aQp,aQG];omega) (by decide)),aQj (vF (n:=1000000000) (by simp only[aQm,aQp,aQG];omega) (by decide)),aFr hc.com,aQi,aQj (vF (n:=1000000000) (by simp only[aQm,aQp,aQG];omega) (by decide)),aFt hc.fld,aQi,aQj (vF (n:=1000000000) (by simp only[aQm,aQp,aQG];omega) (by decide)),aQj (vF (n:=1000000000) (by simp only[aQm,aQp,aQG];omega) (by decide)),k,VM (l:=c.2.2.2.1) (d:=eD) (fun x=>[tE x])];unfold qZ;rw[aQi];rw[List.nil_append,aM4];rfl
  · simp only[aRl] at hok
    rw[hok,aQj (show (!false)=true from rfl),aQl (by decide)]
theorem aM6 {c:C4}(hc:HR c) (hok:wI c=true): ∀x∈([vQ c]++c.2.2.2.1.map tE)++[[10]],x.length≤1000000000:=by
  intro x hx;simp only[aRe,aQx,List.mem_map] at hx;rcases hx with(rfl|⟨y,hy,rfl⟩) |rfl
  ·have:=aM5 hc;omega
  · obtain⟨i,hi,rfl⟩:=aR2 hy
    have he:=a6S hok hi;rw[aQI,aQs hi] at he;obtain⟨r0,r4⟩:=VQ he;have:=aFE (hc.ent _ hy) r0 r4;omega
  ·simp
def BB (c:C4):List UInt8:=DM (vQ c) (c.2.2.2.1.map tE) [10]
theorem aM7 {c:C4}(hc:HR c) (hok:wI c=true):(BB c).length≤1002000000000:=by
  have h:=aM6 hc hok;have hl:=hc.len
  have e:BB c=(([vQ c]++c.2.2.2.1.map tE)++[[10]]).flatMap (fun x=>x):=by
    unfold BB DM;simp [List.flatMap_def];rfl
  have:=HT (l:=([vQ c]++c.2.2.2.1.map tE)++[[10]]) (h:=fun x=>x) (B:=1000000000) h;rw[e];simp only[aQm,aQ0,aRq] at this;omega
theorem aM8 {c:C4}(hc:HR c):HG c=some (if wI c=true then(BB c,0) else([],1)):=by
  unfold HG;rw[aFG hc,aQi];by_cases hok:wI c=true
  · have hl:=hc.len
    have:=aM7 hc hok;rw[aQj hok,aQj hok];dsimp only;rw[a6M (vQ c,(c.2.2.2.1.map tE,([10],()))) (by simp;omega) (by show (BB c).length≤_;omega),aQi];rfl
  · rw[aQl hok,aQl hok]
    dsimp only;rw[a6M ([],([],([],()))) (by simp) (by simp [DM]),aQi];rfl
theorem aFH {x y b:UInt8}{t:List UInt8}(h:b≠x): ¬sY x y (b::t)=true:=by
 cases t with
 |nil=>simp [sY]
 |cons c u=>simp [sY,h]
def VR (r:List UInt8):Prop:= ∀b t,r=b::t->uR b≠true/\b≠47
theorem VS: ∀(g r:List UInt8),(∀b∈g,uR b=true)->VR r->G (g++r)=(g.length,true)
 |[],r,_,hr=>by
  cases r with
  |nil=>rfl
  |cons b t=>
   obtain⟨h1,h2⟩:=hr b t rfl;rw[List.nil_append,PY h1 (aFH h2) (aFH h2)];rfl
 |b::g,r,hg,hr=>by
  rw[List.cons_append,M9 (hg b aQH),VS g r (fun x hx=>hg x (aQy _ hx)) hr];simp only[CK,aQp,aQQ,and_true];omega
theorem aM9 {g r:List UInt8}(hg: ∀b∈g,uR b=true) (hr:VR r):t8 (g++r)=((uK r).1,(uK r).2.1,g.length,g.length+(uK r).2.2):=by
 unfold t8;rw[VS g r hg hr];simp only[aRZ,aRY]
structure At (s:List UInt8) (P:Nat) (l:List UInt8):Prop where
 le:P<=s.length
 eq:s.drop P=l
theorem At.tok {s:List UInt8}{P:Nat}{g r x:List UInt8}{k:Int}{m:Nat}(h:At s P (g++r)) (hg: ∀b∈g,uR b=true) (hr:VR r) (ht:uK r=(k,x,m)):kS s P=k/\xS s P=x/\At s (nS s P) (r.drop m):=by
 have e:=aM9 hg hr;rw[ht,<-h.eq] at e;refine⟨?_,?_,(s8 h.le).2,?_⟩
 ·unfold kS;rw[e]
 ·unfold xS;rw[e]
 ·unfold nS;rw[e];dsimp only;rw[<-aQ9,h.eq,<-aQ9,aRY]
theorem aNa {x z:List UInt8}(hx:s0 x=true):uK (q3 x++z)=(1,x,(q3 x).length):=by
 have e1:q3 x++z=34::(zQ 3 x++34::z):=by simp [q3]
 have e2:(q3 x).length=(zQ 3 x).length+2:=by simp [q3]
 have h1:sA 34 (zQ 3 x++34::z)=some (zQ 3 x).length:=aMN (n:=3) (.inr rfl) x z;have h2:y6 3 (zQ 3 x)=(x,0,0):=aMM (n:=3) (.inr rfl) x;rw[e1,e2,MC (by decide) rfl];unfold xO;rw[h1];dsimp only;rw[aRw,h2,aQl (by simp [hx])]
theorem aNb (x z:List UInt8):VR (q3 x++z):=by
 intro b t h;have:q3 x++z=34::(zQ 3 x++34::z):=by simp [q3]
 rw[this] at h;cases h;exact⟨by decide,by decide⟩
theorem At.str {s:List UInt8}{P:Nat}{g x z:List UInt8}(h:At s P (g++(q3 x++z))) (hg: ∀b∈g,uR b=true) (hx:s0 x=true):kS s P=1/\xS s P=x/\At s (nS s P) z:=by
 obtain⟨h1,h2,h3⟩:=h.tok hg (aNb x z) (aNa hx);rw[aRY] at h3;exact⟨h1,h2,h3⟩
theorem At.brace {s:List UInt8}{P:Nat}{g z:List UInt8}{b:UInt8}(hb:b=123\/b=125) (h:At s P (g++(b::z))) (hg: ∀b∈g,uR b=true):kS s P=3/\xS s P=[b]/\At s (nS s P) z:=by
 obtain⟨h1,h2,h3⟩:=h.tok hg (fun c t e=>by cases e;rcases hb with rfl|rfl<;>exact⟨by decide,by decide⟩) (MB hb)
 exact⟨h1,h2,h3⟩
def QE (w:List UInt8):Bool:=w.all vA&&(match w with|[]=>false|b::_=>xN b.toNat)
theorem aNc {w z:List UInt8}(hw:w.all vA=true) (hz: ∀b t,z=b::t->vA b=false):wV (w++z)=w.length:=by
 unfold wV
 induction w with
 |nil=>
  cases z with
  |nil=>rfl
  |cons b t=>rw[List.nil_append,aRm,hz b t rfl];rfl
 |cons a u ih=>
  rw[List.all_cons,aQr] at hw;have:=ih hw.2;rw[List.cons_append,aRm,hw.1];simp only[Bool.not_true,aRC,aSx,aQp];cases hf:(u++z).findIdx? fun b=> !vA b with
  |none=>rw[hf] at this;simpa using this
  |some k=>rw[hf] at this;simpa using this
theorem aNd {b:UInt8}(h:xN b.toNat=true): ¬(b=123\/b=125)/\¬b=34/\uR b≠true/\b≠47:=by
 refine⟨?_,?_,?_,?_⟩
 ·rintro(rfl|rfl)<;>revert h<;>decide
 ·rintro rfl;revert h;decide
 ·intro hw;unfold uR at hw;simp only[aRg,aQq] at hw;rcases hw with((rfl|rfl) |rfl) |rfl<;>revert h<;>decide
 ·rintro rfl;revert h;decide
theorem At.word {s:List UInt8}{P:Nat}{g w z:List UInt8}(h:At s P (g++(w++z))) (hg: ∀b∈g,uR b=true) (hw:QE w=true) (hz: ∀b t,z=b::t->vA b=false):kS s P=2/\xS s P=w/\At s (nS s P) z:=by
 unfold QE at hw;rw[aQr] at hw;obtain⟨h1,h2⟩:=hw;cases w with
 |nil=>cases h2
 |cons b u=>
  have h2:xN b.toNat=true:=h2;obtain⟨n1,n2,n3,n4⟩:=aNd h2;have hlen:=aNc h1 hz;have ht:uK ((b::u)++z)=(2,b::u,(b::u).length):=by
   rw[List.cons_append,MD n1 n2 h2,<-List.cons_append,hlen,aRw]
  obtain⟨k1,k2,k3⟩:=h.tok hg (fun c t e=>by cases e;exact⟨n3,n4⟩) ht;rw[aRY] at k3;exact⟨k1,k2,k3⟩
theorem aNe {b:UInt8}(h:wR b.toNat=false):vA b=true:=by
 unfold wR at h;unfold vA Q1 xN;simp only[aRN,aRP,aQr,aRg,aQq] at h⊢;omega
theorem aNf {x:List UInt8}(h:rP x=true):QE x=true:=by
 cases x with
 |nil=>cases h
 |cons b t=>
  unfold rP at h;simp only[aQr,aQO,aQ7,aRl] at h;obtain⟨⟨_,h1⟩,h2⟩:=h;have hb:xN b.toNat=true/\vA b=true:=by
   unfold xZ at h1;unfold vA Q1 xN;simp only[aQr,aRg,aQq] at h1⊢;omega
  unfold QE;rw[aQr,List.all_cons,aQr];exact⟨⟨hb.2,aRh.2 fun c hc=>aNe (h2 c hc)⟩,hb.1⟩
theorem aNg {l:List (List UInt8)}{x:List UInt8}(h: ∀y∈l,y<x):DK l x=l++[x]:=by
 have hk:wX l x=l.length:=by
  unfold wX;rw[aRL.2 fun y hy=>by rw[BZ];simpa using h y hy];rfl
 unfold DK;rw[hk,List.take_length,aQ3,List.append_nil]
theorem aNh {l:List qY}{n v:List UInt8}(h: ∀y∈l,y.1<n):AE l n v=l++[(n,(v,()))]:=by
 have h1:yQ l n=none:=by
  unfold yQ;rw[aRL];intro y hy;have:=h y hy;simp only[aQY];intro he;rw[he] at this;exact List.lt_irrefl _ this
 have hk:DG l n=l.length:=by
  unfold DG;rw[aRL.2 fun y hy=>by rw[BZ];simp [h y hy]];rfl
 unfold AE;rw[h1,hk,List.take_length,aQ3,List.append_nil];rfl
theorem aNi {n:Int}(h0:0<=n) (h4:n<=4):sX (pZ .str vY n)=n:=by
 have:n=0\/n=1\/n=2\/n=3\/n=4:=by omega
 rcases this with rfl|rfl|rfl|rfl|rfl<;>decide
theorem aNj {n:Int}(h0:0<=n) (h4:n<=4):QE (pZ .str vY n)=true:=by
 have:n=0\/n=1\/n=2\/n=3\/n=4:=by omega
 rcases this with rfl|rfl|rfl|rfl|rfl<;>decide
theorem MO: ∀b∈([10,32,32]:List UInt8),uR b=true:=by decide
theorem EQ: ∀b∈([32]:List UInt8),uR b=true:=by decide
theorem aFI: ∀b∈([10]:List UInt8),uR b=true:=by decide
theorem aFJ: ∀b∈([10,10]:List UInt8),uR b=true:=by decide
theorem HW {z:List UInt8}: ∀b t,(([32]:List UInt8)++z)=b::t->vA b=false:=by
 intro b t h;cases h;decide
def DP (z:List UInt8):Prop:= ∀b t,z=b::t->vA b=false
theorem VT (z:List UInt8):DP (10::z):=by
 intro b t h;cases h;decide
section
variable {s:List UInt8}(hsm:s.length<=4000000000) {c:C4}{bad bad0 at0 e0:Int}{ends:List Int}{i:rG}{hd:Bool}
 {P:Nat}{z sr tg:List UInt8}{cm fg:List (List UInt8)}{st:Int}{fd:List qY}{d1 d2 d3:Bool}
include hsm
theorem aNk {x:List UInt8}(hA:At s P (CP x++z)) (hx:s0 x=true) (hc:cm.length<20): ∃P',At s P' z/\
  tU (s,(at0,(bad0,(e0,(c,(ends,())))))) i hd ((P:Int),bad,0,sr,tg,cm,fg,st,fd,d1,d2,d3)=some (.inl ((P':Int),bad,0,sr,tg,cm++[x],fg,st,fd,d1,d2,d3)):=by
 have e:CP x++z=[10,32,32]++(wY++([32]++(q3 x++z))):=by simp [CP]
 rw[e] at hA;obtain⟨k1,x1,A1⟩:=hA.word MO (by decide) HW;obtain⟨k2,x2,A2⟩:=A1.str EQ hx;refine⟨_,A2,?_⟩;rw[AH hsm hA.le k1,a6z hsm A1.le x1 (by omega),aQi,aQj k2,x2]
theorem a6T: ∀(l:List (List UInt8)) (P:Nat) (cm:List (List UInt8)),At s P (AI l++z)->(∀x∈l,s0 x=true)->cm.length+l.length<=20->∃P',At s P' z/\
  pU (tU (s,(at0,(bad0,(e0,(c,(ends,())))))) i hd) ((P:Int),bad,0,sr,tg,cm,fg,st,fd,d1,d2,d3)=pU (tU (s,(at0,(bad0,(e0,(c,(ends,())))))) i hd) ((P':Int),bad,0,sr,tg,cm++l,fg,st,fd,d1,d2,d3)
 |[],P,cm,hA,_,_=>⟨P,hA,by rw[List.append_nil]⟩
 |x::l,P,cm,hA,hx,hl=>by
  rw[aQp] at hl;have e:AI (x::l)++z=CP x++(AI l++z):=by simp [AI,aQt]
  rw[e] at hA;obtain⟨P1,A1,h1⟩:=aNk hsm (c:=c) (bad:=bad) (bad0:=bad0) (at0:=at0) (e0:=e0) (ends:=ends) (i:=i) (hd:=hd) (sr:=sr) (tg:=tg) (cm:=cm) (fg:=fg) (st:=st) (fd:=fd) (d1:=d1) (d2:=d2) (d3:=d3) hA (hx x aQH) (by omega);obtain⟨P2,A2,h2⟩:=a6T l P1 (cm++[x]) A1 (fun y hy=>hx y (aQy _ hy)) (by rw[aQm,aQ0];omega);refine⟨P2,A2,?_⟩;rw[B8 h1,h2,aQt,aRd]
theorem aNl {x:qY}(hA:At s P (C0 x++z)) (hn:rP x.1=true) (hnt:s0 x.1=true) (hx:s0 x.2.1=true) (hlt: ∀y∈fd,y.1<x.1) (hc:fd.length<20): ∃P',At s P' z/\
  tU (s,(at0,(bad0,(e0,(c,(ends,())))))) i hd ((P:Int),bad,0,sr,tg,cm,fg,st,fd,d1,d2,d3)=some (.inl ((P':Int),bad,0,sr,tg,cm,fg,st,fd++[x],d1,d2,d3)):=by
 have e:C0 x++z=[10,32,32]++(yT++([32]++(q3 x.1++([32]++(q3 x.2.1++z))))):=by simp [C0]
 rw[e] at hA;obtain⟨k1,x1,A1⟩:=hA.word MO (by decide) HW;obtain⟨k2,x2,A2⟩:=A1.str EQ hnt;obtain⟨k3,x3,A3⟩:=A2.str EQ hx;refine⟨_,A3,?_⟩;have hnone:(fd.any fun y=>decide (y.1=x.1))=false:=by
  rw[aQ7];intro y hy;have:=hlt y hy;simp only[aQq];intro he;rw[he] at this;exact List.lt_irrefl _ this
 have hR:EN s (nS s P) bad fd=((nS s (nS s (nS s P)):Int),bad,0,fd++[x]):=by
  unfold EN;rw[aQl (by simp [k2]),x2,aQl (by simp [hn]),aQl (by simp [hnone]),aQl (by omega),aQl (by simp [k3]),x3,aNh hlt]
 rw[AH hsm hA.le k1,a6A hsm A1.le x1 (by omega),aQi,hR]
theorem a6U: ∀(l:List qY) (P:Nat) (fd:List qY),At s P (xQ l++z)->(∀x∈l,rP x.1=true/\s0 x.1=true/\s0 x.2.1=true)->(fd++l).Pairwise (fun a b=>a.1<b.1)->fd.length+l.length<=20->∃P',At s P' z/\
  pU (tU (s,(at0,(bad0,(e0,(c,(ends,())))))) i hd) ((P:Int),bad,0,sr,tg,cm,fg,st,fd,d1,d2,d3)=pU (tU (s,(at0,(bad0,(e0,(c,(ends,())))))) i hd) ((P':Int),bad,0,sr,tg,cm,fg,st,fd++l,d1,d2,d3)
 |[],P,fd,hA,_,_,_=>⟨P,hA,by rw[List.append_nil]⟩
 |x::l,P,fd,hA,hx,hp,hl=>by
  rw[aQp] at hl;have e:xQ (x::l)++z=C0 x++(xQ l++z):=by simp [xQ,aQt]
  rw[e] at hA;obtain⟨n1,n2,n3⟩:=hx x aQH;obtain⟨P1,A1,h1⟩:=aNl hsm (c:=c) (bad:=bad) (bad0:=bad0) (at0:=at0) (e0:=e0) (ends:=ends) (i:=i) (hd:=hd) (sr:=sr) (tg:=tg) (cm:=cm) (fg:=fg) (st:=st) (fd:=fd) (d1:=d1) (d2:=d2) (d3:=d3) hA n1 n2 n3 (fun y hy=>(aRD.1 hp).2.2 y hy x aQH) (by omega);obtain⟨P2,A2,h2⟩:=a6U l P1 (fd++[x]) A1 (fun y hy=>hx y (aQy _ hy)) (by rw[aQt,aRd];exact hp) (by rw[aQm,aQ0];omega);refine⟨P2,A2,?_⟩;rw[B8 h1,h2,aQt,aRd]
theorem aNm {x:List UInt8}(hA:At s P (BA x++z)) (hn:rP x=true) (hz:DP z) (hlt: ∀y∈fg,y<x) (hc:fg.length<20): ∃P',At s P' z/\
  tU (s,(at0,(bad0,(e0,(c,(ends,())))))) i false ((P:Int),bad,0,sr,tg,cm,fg,st,fd,d1,d2,d3)=some (.inl ((P':Int),bad,0,sr,tg,cm,fg++[x],st,fd,d1,d2,d3)):=by
 have e:BA x++z=[10,32,32]++(CM++([32]++(x++z))):=by simp [BA]
 rw[e] at hA;obtain⟨k1,x1,A1⟩:=hA.word MO (by decide) HW;obtain⟨k2,x2,A2⟩:=A1.word EQ (aNf hn) hz;refine⟨_,A2,?_⟩;have hnone:(fg.any fun y=>decide (y=x))=false:=by
  rw[aQ7];intro y hy;have:=hlt y hy;simp only[aQq];intro he;rw[he] at this;exact List.lt_irrefl _ this
 have hR:EO s (nS s P) bad fg=((nS s (nS s P):Int),bad,0,fg++[x]):=by
  unfold EO;rw[aQl (by simp [k2]),x2,aQl (by simp [hn]),aQl (by simp [hnone]),aQl (by omega),aNg hlt]
 rw[AH hsm hA.le k1,a6B hsm A1.le x1 (by omega),aQi,hR]
theorem aNn: ∀(l:List (List UInt8)) {z:List UInt8},DP z->DP (x9 l++z)
 |[],_,hz=>hz
 |x::l,z,_=>by
  have e:x9 (x::l)++z=10::([32,32,102,108,97,103,32]++(x++(x9 l++z))):=by simp [x9,BA,aQt]
  rw[e];exact VT _
theorem aFK (hz:DP z): ∀(l:List (List UInt8)) (P:Nat) (fg:List (List UInt8)),At s P (x9 l++z)->(∀x∈l,rP x=true)->(fg++l).Pairwise (· < ·)->fg.length+l.length<=20->∃P',At s P' z/\
  pU (tU (s,(at0,(bad0,(e0,(c,(ends,())))))) i false) ((P:Int),bad,0,sr,tg,cm,fg,st,fd,d1,d2,d3)=pU (tU (s,(at0,(bad0,(e0,(c,(ends,())))))) i false) ((P':Int),bad,0,sr,tg,cm,fg++l,st,fd,d1,d2,d3)
 |[],P,fg,hA,_,_,_=>⟨P,hA,by rw[List.append_nil]⟩
 |x::l,P,fg,hA,hx,hp,hl=>by
  rw[aQp] at hl;have e:x9 (x::l)++z=BA x++(x9 l++z):=by simp [x9,aQt]
  rw[e] at hA;obtain⟨P1,A1,h1⟩:=aNm hsm (c:=c) (bad:=bad) (bad0:=bad0) (at0:=at0) (e0:=e0) (ends:=ends) (i:=i) (sr:=sr) (tg:=tg) (cm:=cm) (fg:=fg) (st:=st) (fd:=fd) (d1:=d1) (d2:=d2) (d3:=d3) hA (hx x aQH) (aNn hsm l hz) (fun y hy=>(aRD.1 hp).2.2 y hy x aQH) (by omega);obtain⟨P2,A2,h2⟩:=aFK hz l P1 (fg++[x]) A1 (fun y hy=>hx y (aQy _ hy)) (by rw[aQt,aRd];exact hp) (by rw[aQm,aQ0];omega);refine⟨P2,A2,?_⟩;rw[B8 h1,h2,aQt,aRd]
theorem aNo {x:List UInt8}(hA:At s P (xA JW x++z)) (hx:s0 x=true): ∃P' d,At s P' z/\
  pU (tU (s,(at0,(bad0,(e0,(c,(ends,())))))) i false) ((P:Int),bad,0,[],tg,cm,fg,st,fd,false,d2,d3)=pU (tU (s,(at0,(bad0,(e0,(c,(ends,())))))) i false) ((P':Int),bad,0,x,tg,cm,fg,st,fd,d,d2,d3):=by
 by_cases he:x=[]
 ·subst he;exact⟨P,false,by simpa[xA] using hA,rfl⟩
 ·have e:xA JW x++z=[10,32,32]++(sR++([32]++(q3 x++z))):=by simp [xA,he]
  rw[e] at hA;obtain⟨k1,x1,A1⟩:=hA.word MO (by decide) HW;obtain⟨k2,x2,A2⟩:=A1.str EQ hx;refine⟨_,true,A2,B8 ?_⟩;rw[AH hsm hA.le k1,x1,HK hsm A1.le (by decide) (by decide) (by decide),aQi,aEV,aQl (by decide),aQj rfl,aQj k2,x2]
theorem aNp {x:List UInt8}(hA:At s P (xA JX x++z)) (hx:s0 x=true): ∃P' d,At s P' z/\
  pU (tU (s,(at0,(bad0,(e0,(c,(ends,())))))) i false) ((P:Int),bad,0,sr,[],cm,fg,st,fd,d1,false,d3)=pU (tU (s,(at0,(bad0,(e0,(c,(ends,())))))) i false) ((P':Int),bad,0,sr,x,cm,fg,st,fd,d1,d,d3):=by
 by_cases he:x=[]
 ·subst he;exact⟨P,false,by simpa[xA] using hA,rfl⟩
 ·have e:xA JX x++z=[10,32,32]++(sS++([32]++(q3 x++z))):=by simp [xA,he]
  rw[e] at hA;obtain⟨k1,x1,A1⟩:=hA.word MO (by decide) HW;obtain⟨k2,x2,A2⟩:=A1.str EQ hx;refine⟨_,true,A2,B8 ?_⟩;rw[AH hsm hA.le k1,x1,HK hsm A1.le (by decide) (by decide) (by decide),aQi,aEW,aQl (by decide),aQl (by decide),aQj rfl,aQj k2,x2]
theorem aNq {n:Int}(hA:At s P (EP n++z)) (h0:0<=n) (h4:n<=4) (hz:DP z): ∃P' d,At s P' z/\
  pU (tU (s,(at0,(bad0,(e0,(c,(ends,())))))) i false) ((P:Int),bad,0,sr,tg,cm,fg,0,fd,d1,d2,false)=pU (tU (s,(at0,(bad0,(e0,(c,(ends,())))))) i false) ((P':Int),bad,0,sr,tg,cm,fg,n,fd,d1,d2,d):=by
 by_cases he:n=0
 ·subst he;exact⟨P,false,by simpa[EP] using hA,rfl⟩
 ·have e:EP n++z=[10,32,32]++(tD++([32]++(pZ .str vY n++z))):=by simp [EP,he]
  rw[e] at hA;obtain⟨k1,x1,A1⟩:=hA.word MO (by decide) HW;obtain⟨k2,x2,A2⟩:=A1.word EQ (aNj h0 h4) hz;refine⟨_,true,A2,B8 ?_⟩;rw[AH hsm hA.le k1,x1,HK hsm A1.le (by decide) (by decide) (by decide),aQi,aEX,aQl (by decide),aQl (by decide),aQl (by decide),aQj rfl,aQj k2,x2,aNi h0 h4,aQl (by omega)]
theorem aFL (hA:At s P ([10,125]++z)) (he:ends.length<=5000): ∃P':Nat,At s P' z/\
  pU (tU (s,(at0,(bad0,(e0,(c,(ends,())))))) i hd) ((P:Int),bad,0,sr,tg,cm,fg,st,fd,d1,d2,d3)=some (.inr ((P':Int),bad,0,ends++[(P':Int)],sr,tg,cm,fg,st,fd)):=by
 have hA':At s P ([10]++(125::z)):=hA;obtain⟨k1,x1,A1⟩:=hA'.brace (.inr rfl) aFI;exact⟨_,A1,uL (a6E hsm hA.le k1 x1 he)⟩
end
theorem aFM {l:List UInt8}(h: ∀b∈l,b.toNat<128):Lib.validD l=true:=by
 rw[Lib.validD_ascii l.length l (fun b hb=>h b (List.mem_of_mem_take hb)),aQ3];rfl
theorem aNr {b:UInt8}(h:wR b.toNat=false):b.toNat<128:=by
 unfold wR at h;simp only[aRN,aRP,aQr,aQq] at h;omega
theorem aFN {x:List UInt8}(h:rP x=true):s0 x=true:=by
 cases x with
 |nil=>cases h
 |cons b t=>
  unfold rP at h;simp only[aQr,aQO,aQ7,aRl,aQY] at h;obtain⟨⟨h0,h1⟩,h2⟩:=h;unfold s0;rw[aQr,aQq];refine⟨by simp only[aQp];omega,aFM fun c hc=> ?_⟩;rcases aQC.1 hc with rfl|hc
  ·unfold xZ at h1;simp only[aQr,aQq] at h1;omega
  ·exact aNr (h2 c hc)
theorem aFO {x:List UInt8}(h:tO x=true):s0 x=true:=by
 unfold tO at h;simp only[aQr,aQO,aQ7,aRl,aQq] at h;obtain⟨h0,h1,h2⟩:=h;unfold s0;rw[aQr,aQq];refine⟨by omega,aFM fun c hc=> ?_⟩;have:=h0 c hc;unfold JL at this;simp only[aRN,aRP,aQr,aRE,aQq,aQY] at this;omega
theorem JZ {l:List (List UInt8)}(h:xM l=true):l.length<=20/\∀x∈l,s0 x=true:=by
 unfold xM at h;simp only[aQr,aQO,aQ7,aQq,aRl,aRP] at h;exact⟨by omega,fun x hx=>by simpa using h.2 x hx⟩
theorem aFP {α:Type}{r:α->α->Prop}(tr: ∀a b c,r a b->r b c->r a c) {l:List α}(h: ∀(i:Nat) (hi:i+1<l.length),r l[i] l[i+1]):l.Pairwise r:=by
 rw[aRx];intro i j hi hj hij;obtain⟨k,rfl⟩: ∃k,j=i+1+k:=⟨j-i-1,by omega⟩
 induction k with
 |zero=>exact h i hj
 |succ k ih=>exact tr _ _ _ (ih (by omega) (by omega)) (h (i+1+k) hj)
theorem C1 {α:Type}{l:List α}{i:Nat}{d:α}(h:i<l.length):l.getD i d=l[i]:=by
 rw[aQI,aQs h];rfl
theorem VU {l:List (List UInt8)}(h:DH l=true):l.length<=20/\(∀x∈l,rP x=true)/\l.Pairwise (· < ·):=by
 unfold DH at h;simp only[aQr,aQO,aQ7,aQq,aR5,aRl] at h;obtain⟨h1,h2⟩:=h;unfold UV at h1;simp only[aRE,aRN,aRP,aQY] at h1;refine⟨by omega,fun x hx=> ?_,aFP (r:=fun a b:List UInt8=>a<b) (fun a b c=>List.lt_trans) fun i hi=> ?_⟩
 ·obtain⟨i,hi,rfl⟩:=aR2 hx;have:=(h1 i hi).1;rwa [C1 hi] at this
 ·have:=(h1 (i+1) hi).2;rw[C1 hi,Nat.add_sub_cancel,C1 (show i<l.length by omega),BZ] at this;exact aRa (this.resolve_left (by omega))
theorem K0 {l:List qY}(h:wT l=true):l.length<=20/\(∀x∈l,rP x.1=true/\s0 x.1=true/\s0 x.2.1=true)/\l.Pairwise (fun a b=>a.1<b.1):=by
 unfold wT at h;simp only[aQr,aQO,aQ7,aQq,aR5,aRl] at h;obtain⟨h1,h2⟩:=h;unfold UW at h1;simp only[aRE,aRN,aRP,aQY] at h1;refine⟨by omega,fun x hx=> ?_,aFP (r:=fun a b:qY=>a.1<b.1) (fun a b c=>List.lt_trans) fun i hi=> ?_⟩
 ·obtain⟨i,hi,rfl⟩:=aR2 hx;have:=(h1 i hi).1;rw[C1 hi] at this;exact⟨this.1,aFN this.1,this.2⟩
 ·have:=(h1 (i+1) hi).2;rw[C1 hi,Nat.add_sub_cancel,C1 (show i<l.length by omega),BZ] at this;exact aRa (this.resolve_left (by omega))
theorem aNs (l:List qY) {z:List UInt8}(hz:DP z):DP (xQ l++z):=by
 cases l with
 |nil=>exact hz
 |cons x l=>
  have e:xQ (x::l)++z=10::([32,32,102,105,101,108,100,32]++(q3 x.1++([32]++(q3 x.2.1++(xQ l++z))))):=by simp [xQ,C0,aQt]
  rw[e];exact VT _
theorem aNt (l:List (List UInt8)) {z:List UInt8}(hz:DP z):DP (x9 l++z):=by
 cases l with
 |nil=>exact hz
 |cons x l=>
  have e:x9 (x::l)++z=10::([32,32,102,108,97,103,32]++(x++(x9 l++z))):=by simp [x9,BA,aQt]
  rw[e];exact VT _
section
variable {s:List UInt8}(hsm:s.length<=4000000000) {bad:Int}{c2:C4}{ends:List Int}{P:Nat}{z:List UInt8}
include hsm
theorem aFQ {i:rG}{hd:Bool}{z:List UInt8}(hA:At s P ([32]++(123::z))): ∃P':Nat,At s P' z/\
  wQ (s,((P:Int),(bad,(0,(c2,(ends,())))))) i hd=rZ (pU (tU (s,((P:Int),(bad,(0,(c2,(ends,())))))) i hd) ((P':Int),bad,0,i.2.1,i.2.2.1,i.2.2.2.1,i.2.2.2.2.1,i.2.2.2.2.2.1,i.2.2.2.2.2.2.1,false,false,false)) fun(O,Z,aA,aB,aC,aD,aE,aF,aG)=>
   some ((O,Z,aA,ends,aB,aC,aD,aE,aF,aG)):=by
 obtain⟨k1,x1,A1⟩:=hA.brace (.inl rfl) EQ;refine⟨_,A1,?_⟩;unfold wQ;rw[EM hsm hA.le,aQi,w4 (by rw[(AG (by decide) (by decide)).2 k1,x1];decide)]
theorem aNu {x:tI}(h:y4 x=true) (he:ends.length<=5000) (hA:At s P ([32]++(123::(AI x.2.2.2.1++(xA JW x.2.1++(xA JX x.2.2.1++(EP x.2.2.2.2.2.1++(x9 x.2.2.2.2.1++(xQ x.2.2.2.2.2.2.1++([10,125]++z)))))))))): ∃P':Nat,At s P' z/\
  wQ (s,((P:Int),(bad,(0,(c2,(ends,())))))) (i0 x.1) false=some ((P':Int),bad,0,ends++[(P':Int)],x.2.1,x.2.2.1,x.2.2.2.1,x.2.2.2.2.1,x.2.2.2.2.2.1,x.2.2.2.2.2.2.1):=by
 have h':=h;unfold y4 at h';simp only[aQr] at h';obtain⟨⟨⟨⟨⟨⟨_,hsrc⟩,htgt⟩,hcom⟩,hflg⟩,_⟩,hfld⟩:=h';obtain⟨r0,r4⟩:=VQ h;obtain⟨c1,c2'⟩:=JZ hcom;obtain⟨f1,f2,f3⟩:=VU hflg;obtain⟨g1,g2,g3⟩:=K0 hfld;have hb0:DP (([10,125]:List UInt8)++z):=VT _;have hb1:=aNs x.2.2.2.2.2.2.1 hb0;have hb2:=aNt x.2.2.2.2.1 hb1;obtain⟨P1,A1,e1⟩:=aFQ (bad:=bad) (c2:=c2) (ends:=ends) (i:=i0 x.1) (hd:=false) hsm hA;obtain⟨P2,A2,e2⟩:=a6T (bad:=bad) (c:=c2) (bad0:=bad) (at0:=(P:Int)) (e0:=0) (ends:=ends) (i:=i0 x.1) (hd:=false) (sr:=[]) (tg:=[]) (fg:=[]) (st:=0) (fd:=[]) (d1:=false) (d2:=false) (d3:=false) hsm _ P1 [] A1 c2' (by simpa using c1);obtain⟨P3,d1,A3,e3⟩:=aNo (bad:=bad) (c:=c2) (bad0:=bad) (at0:=(P:Int)) (e0:=0) (ends:=ends) (i:=i0 x.1) (tg:=[]) (cm:=[]++x.2.2.2.1) (fg:=[]) (st:=0) (fd:=[]) (d2:=false) (d3:=false) hsm A2 hsrc;obtain⟨P4,d2,A4,e4⟩:=aNp (bad:=bad) (c:=c2) (bad0:=bad) (at0:=(P:Int)) (e0:=0) (ends:=ends) (i:=i0 x.1) (sr:=x.2.1) (cm:=[]++x.2.2.2.1) (fg:=[]) (st:=0) (fd:=[]) (d1:=d1) (d3:=false) hsm A3 htgt;obtain⟨P5,d3,A5,e5⟩:=aNq (bad:=bad) (c:=c2) (bad0:=bad) (at0:=(P:Int)) (e0:=0) (ends:=ends) (i:=i0 x.1) (sr:=x.2.1) (tg:=x.2.2.1) (cm:=[]++x.2.2.2.1) (fg:=[]) (fd:=[]) (d1:=d1) (d2:=d2) hsm A4 r0 r4 hb2;obtain⟨P6,A6,e6⟩:=aFK (bad:=bad) (c:=c2) (bad0:=bad) (at0:=(P:Int)) (e0:=0) (ends:=ends) (i:=i0 x.1) (sr:=x.2.1) (tg:=x.2.2.1) (cm:=[]++x.2.2.2.1) (st:=x.2.2.2.2.2.1) (fd:=[]) (d1:=d1) (d2:=d2) (d3:=d3) hsm hb1 _ P5 [] A5 f2 (by simpa using f3) (by simpa using f1);obtain⟨P7,A7,e7⟩:=a6U (bad:=bad) (c:=c2) (bad0:=bad) (at0:=(P:Int)) (e0:=0) (ends:=ends) (i:=i0 x.1) (hd:=false) (sr:=x.2.1) (tg:=x.2.2.1) (cm:=[]++x.2.2.2.1) (fg:=[]++x.2.2.2.2.1) (st:=x.2.2.2.2.2.1) (d1:=d1) (d2:=d2) (d3:=d3) hsm _ P6 [] A6 g2 (by simpa using g3) (by simpa using g1);obtain⟨P8,A8,e8⟩:=aFL (bad:=bad) (c:=c2) (bad0:=bad) (at0:=(P:Int)) (e0:=0) (ends:=ends) (i:=i0 x.1) (hd:=false) (sr:=x.2.1) (tg:=x.2.2.1) (cm:=[]++x.2.2.2.1) (fg:=[]++x.2.2.2.2.1) (st:=x.2.2.2.2.2.1) (fd:=[]++x.2.2.2.2.2.2.1) (d1:=d1) (d2:=d2) (d3:=d3) hsm A7 he;refine⟨P8,A8,?_⟩;rw[e1];refine(aQW (fun o=>rZ o _) ((((((e2.trans e3).trans e4).trans e5).trans e6).trans e7).trans e8)).trans ?_;rfl
theorem aNv {tag:List UInt8}{cms:List (List UInt8)}{fds:List qY}(hcom:xM cms=true) (hfld:wT fds=true) (he:ends.length<=5000) (hA:At s P ([32]++(123::(AI cms++(xQ fds++([10,125]++z)))))): ∃P':Nat,At s P' z/\
  wQ (s,((P:Int),(bad,(0,(c2,(ends,())))))) (i0 []) true=some ((P':Int),bad,0,ends++[(P':Int)],[],[],cms,[],0,fds):=by
 obtain⟨c1,c2'⟩:=JZ hcom;obtain⟨g1,g2,g3⟩:=K0 hfld;obtain⟨P1,A1,e1⟩:=aFQ (bad:=bad) (c2:=c2) (ends:=ends) (i:=i0 []) (hd:=true) hsm hA;obtain⟨P2,A2,e2⟩:=a6T (bad:=bad) (c:=c2) (bad0:=bad) (at0:=(P:Int)) (e0:=0) (ends:=ends) (i:=i0 []) (hd:=true) (sr:=[]) (tg:=[]) (fg:=[]) (st:=0) (fd:=[]) (d1:=false) (d2:=false) (d3:=false) hsm _ P1 [] A1 c2' (by simpa using c1);obtain⟨P7,A7,e7⟩:=a6U (bad:=bad) (c:=c2) (bad0:=bad) (at0:=(P:Int)) (e0:=0) (ends:=ends) (i:=i0 []) (hd:=true) (sr:=[]) (tg:=[]) (cm:=[]++cms) (fg:=[]) (st:=0) (d1:=false) (d2:=false) (d3:=false) hsm _ P2 [] A2 g2 (by simpa using g3) (by simpa using g1);obtain⟨P8,A8,e8⟩:=aFL (bad:=bad) (c:=c2) (bad0:=bad) (at0:=(P:Int)) (e0:=0) (ends:=ends) (i:=i0 []) (hd:=true) (sr:=[]) (tg:=[]) (cm:=[]++cms) (fg:=[]) (st:=0) (fd:=[]++fds) (d1:=false) (d2:=false) (d3:=false) hsm A7 he;refine⟨P8,A8,?_⟩;rw[e1];refine(aQW (fun o=>rZ o _) ((e2.trans e7).trans e8)).trans ?_;rfl
theorem aFR (x:tI) (z:List UInt8):tE x++z=[10,10]++([101,110,116,114,121]++([32]++(q3 x.1++([32]++(123::(AI x.2.2.2.1++(xA JW x.2.1++(xA JX x.2.2.1++(EP x.2.2.2.2.2.1++(x9 x.2.2.2.2.1++(xQ x.2.2.2.2.2.2.1++([10,125]++z)))))))))))):=by
 simp only[tE,JY,DO,DN,G8,aFw,aQt,List.cons_append,List.nil_append]
theorem aNw {x:tI}{tag:List UInt8}{cms:List (List UInt8)}{fds:List qY}{es:List tI}(h:y4 x=true) (hes:es.length<1000) (hnew:(es.any fun y=>decide (y.1=x.1))=false) (he:ends.length<=5000) (hA:At s P (tE x++z)): ∃P':Nat,At s P' z/\
  HH (s,((P:Int),(bad,(0,((tag,(cms,(fds,(es,())))),(ends,()))))))=some ((P':Int),bad,0,es++[x],ends++[(P':Int)]):=by
 have h':=h;unfold y4 at h';simp only[aQr] at h';obtain⟨⟨⟨⟨⟨⟨⟨⟨hne,h200⟩,hid⟩,_⟩,_⟩,_⟩,_⟩,_⟩,_⟩:=h';rw[aFR hsm] at hA;obtain⟨k1,x1,A1⟩:=hA.word aFJ (by decide) HW;obtain⟨k2,x2,A2⟩:=A1.str EQ hid;obtain⟨P',A',hb⟩:=aNu (bad:=bad) (c2:=(tag,(cms,(fds,(es,()))))) (ends:=ends) hsm h he A2;refine⟨P',A',?_⟩;unfold HH;rw[EM hsm hA.le,aQi,w4 (by rw[(AG (by decide) (by decide)).2 k1,x1];decide)];dsimp only;rw[BY hsm A1.le (by decide) (by decide),aQi,w4 (by simpa using k2)];dsimp only;rw[aQl (show¬(!decide ((0:Int)=0))=true from by decide),a6I _ _ (show es.length<=5000 by omega),aQi,a6H,x2];have hid': ¬(decide (x.1=[])||decide ((200:Int)<(x.1.length:Int)))=true:=by
  simp only[aQO,aQY,aQq] at hne h200;simp [hne];omega
 rw[aQl hid',aQl (fun hh=>aSy (hnew.symm.trans hh)),aQl (show¬decide ((1000:Int)<=(es.length:Int))=true from by simp;omega)];have hb':wQ (s,((nS s (nS s P):Int),(bad,((0:Int),((tag,(cms,(fds,(es,())))),(ends,())))))) (x.1,([],([],([],([],(0,([],()))))))) false=_:=hb;rw[hb',aQi,aQj (by simp;omega),aQj (by simp;omega)];rfl
theorem aNx {c:C4}(ht:tO c.1=true) (hcom:xM c.2.1=true) (hfld:wT c.2.2.1=true) (hA:At s 0 (vQ c++z)): ∃P':Nat,At s P' z/\
  EH (s,((0:Int),((0:Int),((0:Int),((([]:List UInt8),(([]:List (List UInt8)),(([]:List pR),(([]:List rG),())))),(([]:List Int),()))))))=some ((P':Int),0,0,c.1,c.2.1,c.2.2.1,[(P':Int)]):=by
 have e:vQ c++z=[]++([99,97,116,97,108,111,103]++([32]++(q3 c.1++([32]++(123::(AI c.2.1++(xQ c.2.2.1++([10,125]++z)))))))):=by
  simp only[vQ,aFF,aQt,List.cons_append,List.nil_append]
 rw[e] at hA;obtain⟨k1,x1,A1⟩:=hA.word (by simp) (by decide) HW;obtain⟨k2,x2,A2⟩:=A1.str EQ (aFO ht);obtain⟨P',A',hb⟩:=aNv (bad:=0) (c2:=([],([],([],([],()))))) (ends:=[]) (tag:=c.1) hsm hcom hfld (by decide) A2;refine⟨P',A',?_⟩;have hfit:pQ c.1:=by
  unfold tO at ht;simp only[aQr,aQq] at ht;unfold pQ;omega
 have h1:vM (s,(((0:Nat):Int),((0:Int),((0:Int),((([]:List UInt8),(([]:List (List UInt8)),(([]:List pR),(([]:List rG),())))),(([]:List Int),())))))) 2 [99,97,116,97,108,111,103]=_:=EM hsm hA.le;have h1':vM (s,((0:Int),((0:Int),((0:Int),((([]:List UInt8),(([]:List (List UInt8)),(([]:List pR),(([]:List rG),())))),(([]:List Int),())))))) 2 [99,97,116,97,108,111,103]=_:=h1;unfold EH;rw[h1',aQi,w4 (by rw[(AG (by decide) (by decide)).2 k1,x1];decide)];dsimp only;rw[BY hsm A1.le (by decide) (by decide),aQi,w4 (by simpa using k2)];dsimp only;rw[x2,PR _ hfit,ht,aQj wW,aQl (show¬(decide ((0:Int)=0)&& !(val (some true)))=true from by decide)];have hb':wQ (s,((nS s (nS s 0):Int),((0:Int),((0:Int),(([],([],([],([],())))),(([]:List Int),())))))) ([],([],([],([],([],(0,([],()))))))) true=_:=hb;unfold qZ;rw[aQi];dsimp only;rw[hb',aQi];rfl
theorem VV {l:List UInt8}(h:At s P l):P=s.length-l.length/\l.length<=s.length:=by
 have h1:=h.le;have h2:=aQW List.length h.eq;rw[aQw] at h2;omega
def HX (n:Nat):List tI->List Int
 |[]=>[]
 |_::l=>((n- (((l.map tE).flatten++[10]).length):Nat):Int)::HX n l
theorem aFS {c:C4}{rr:Int×Int×Int×List UInt8×List (List UInt8)×List pR×List Int}(hr:rr.2.2.2=(c.1,c.2.1,c.2.2.1,rr.2.2.2.2.2.2)): ∀(l es:List tI) (P:Nat) (ends:List Int),At s P ((l.map tE).flatten++[10])->(∀x∈l,y4 x=true)->(es++l).Pairwise (fun a b=>a.1≠b.1)->es.length+l.length<=1000->ends.length<=es.length+1->∃P':Nat,
  pU (v6 s rr) ((P:Int),0,0,es,ends)=some ((P':Int),0,0,es++l,ends++HX s.length l)
 |[],es,P,ends,hA,_,_,_,_=>by
  refine⟨P,?_⟩;have hA':At s P ([10]++[]):=hA;obtain⟨p1,p2⟩:=VV hsm hA';have hG:G ([10]++[])=(1,true):=VS [10] [] aFI (fun b t h=>by cases h);have hg:=PZ (JP hsm) hA.le;rw[hA'.eq,hG] at hg;rw[List.append_nil];refine(wO ?_).trans (by rw[HX,List.append_nil]);unfold v6;dsimp only;rw[hg,aQj wW,aQl];show¬(decide ((0:Int)=0)&&decide (((P+1:Nat):Int)<(s.length:Int)))=true;simp only[List.append_nil,aQ0] at p1 p2;simp;omega
 |x::l,es,P,ends,hA,hok,hp,hl,hle=>by
  rw[aQp] at hl;have e:((x::l).map tE).flatten++[10]=tE x++((l.map tE).flatten++[10]):=by simp
  rw[e] at hA;have hnew:(es.any fun y=>decide (y.1=x.1))=false:=by
   rw[aQ7];intro y hy;simpa using(aRD.1 hp).2.2 y hy x aQH
  obtain⟨P1,A1,h1⟩:=aNw (bad:=0) (tag:=c.1) (cms:=c.2.1) (fds:=c.2.2.1) (es:=es) (ends:=ends) hsm (hok x aQH) (by omega) hnew (by omega) hA;obtain⟨q1,q2⟩:=VV hsm A1;obtain⟨P2,h2⟩:=aFS hr l (es++[x]) P1 (ends++[(P1:Int)]) A1 (fun y hy=>hok y (aQy _ hy)) (by rw[aQt,aRd];exact hp) (by rw[aQm,aQ0];omega) (by simp only[aQm,aQ0];omega);refine⟨P2,?_⟩;have hg:=PZ (JP hsm) hA.le;have hlt:P+(G (s.drop P)).1<s.length:=by
   have hA':=hA;rw[aFR hsm] at hA';have hG:G (s.drop P)=(2,true):=by
    rw[hA'.eq];exact VS [10,10] _ aFJ (fun b t h=>by cases h;exact⟨by decide,by decide⟩)
   obtain⟨p1,p2⟩:=VV hsm hA';rw[hG];simp only[aQm,aQp,aQG] at p1 p2;omega
  have hst:v6 s rr ((P:Int),0,0,es,ends)=some (.inl ((P1:Int),0,0,es++[x],ends++[(P1:Int)])):=by
   unfold v6;dsimp only;rw[hg,aQj wW,aQj (show (decide ((0:Int)=0)&&decide (val (some (((P+(G (s.drop P)).1:Nat):Int)))<(s.length:Int)))=true from by
    show (decide ((0:Int)=0)&&decide (((P+(G (s.drop P)).1:Nat):Int)<(s.length:Int)))=true;simp;omega)]
   have e1:rr.2.2.2.1=c.1:=by rw[hr]
   have e2:rr.2.2.2.2.1=c.2.1:=by rw[hr]
   have e3:rr.2.2.2.2.2.1=c.2.2.1:=by rw[hr]
   rw[e1,e2,e3,h1,aQi]
  rw[IQ hst,h2,aQt,aQt,aRd,aRd];rw[HX,q1]
end
theorem aNy {es:List tI}(h: ∀i,i<es.length->G6 es i=false):es.Pairwise (fun a b=>a.1≠b.1):=by
 rw[aRx];intro i j hi hj hij he;have h1:=h j hj;unfold G6 at h1;simp only[aRE,aQ7,aQq] at h1;rw[C1 hj] at h1;exact h1.1 es[i] (by rw[List.mem_take_iff_getElem];exact⟨i,by omega,rfl⟩) he
theorem VW {c:C4}(h:wI c=true):tO c.1=true/\xM c.2.1=true/\wT c.2.2.1=true/\c.2.2.2.1.length<=1000/\(∀x∈c.2.2.2.1,y4 x=true)/\c.2.2.2.1.Pairwise (fun a b=>a.1≠b.1):=by
 have h':=h;unfold wI at h';simp only[aQr,aQO,aQ7,aR5,aQq,aRl] at h';obtain⟨⟨⟨h1,h2⟩,h3⟩,h4,h5⟩:=h';refine⟨h1,h2,h3,by omega,fun x hx=> ?_,aNy h5⟩;obtain⟨i,hi,rfl⟩:=aR2 hx;have:=a6S h hi;rwa [C1 hi] at this
theorem aNz {c:C4}(h:wI c=true) (hsm:(BB c).length<=4000000000): ∃n:Nat,n=(vQ c).length/\
  G2 (BB c)=some (c.1,c.2.1,c.2.2.1,c.2.2.2.1,(n:Int)::HX (BB c).length c.2.2.2.1,0,0):=by
 obtain⟨h1,h2,h3,h4,h5,h6⟩:=VW h;obtain⟨s,hs⟩: ∃s,BB c=s:=⟨_,rfl⟩;have hs':s=vQ c++((c.2.2.2.1.map tE).flatten++[10]):=by rw[<-hs];rfl
 rw[hs] at hsm⊢;have hA:At s 0 (vQ c++((c.2.2.2.1.map tE).flatten++[10])):=⟨aRc _,by rw[aRA];exact hs'⟩;obtain⟨P1,A1,e1⟩:=aNx hsm h1 h2 h3 hA;obtain⟨q1,q2⟩:=VV hsm A1;obtain⟨P2,e2⟩:=aFS (c:=c) (rr:=((P1:Int),0,0,c.1,c.2.1,c.2.2.1,[(P1:Int)])) hsm rfl c.2.2.2.1 [] P1 [(P1:Int)] A1 h5 (by simpa using h6) (by simpa using h4) (by simp);refine⟨P1,?_,?_⟩
 ·have:=aQW List.length hs';rw[aQm] at this;omega
 ·unfold G2;rw[e1,aQi];dsimp only;rw[e2];unfold qZ;rw[aQi];dsimp only;rw[aQl (show¬(!decide ((0:Int)=0))=true from by decide),List.nil_append,aRd]
theorem aNA {l:List UInt8}(h:(uK l).1=1):s0 (uK l).2.1=true:=by
 cases l with
 |nil=>exact absurd h (show¬(4:Int)=1 by decide)
 |cons b t=>
  by_cases h1:b=123\/b=125
  ·rw[MB h1] at h;exact absurd h (show¬(3:Int)=1 by decide)
  ·by_cases h2:b=34
   ·rw[MC h1 h2] at h⊢;unfold xO at h⊢;cases he:sA 34 t with
    |none=>rw[he] at h;exact absurd h (show¬(0:Int)=1 by decide)
    |some n=>
     rw[he] at h;dsimp only at h⊢;by_cases hb:(y6 3 (t.take n)).2.2≠0\/s0 (y6 3 (t.take n)).1=false
     ·rw[aQj hb] at h;exact absurd h (show¬(0:Int)=1 by decide)
     ·rw[aQl hb];cases hx:s0 (y6 3 (t.take n)).1 with
      |true=>rfl
      |false=>exact absurd (.inr hx) hb
   ·by_cases h3:xN b.toNat=true
    ·rw[MD h1 h2 h3] at h;exact absurd h (show¬(2:Int)=1 by decide)
    ·rw[ME h1 h2 h3] at h;exact absurd h (show¬(0:Int)=1 by decide)
theorem QF {s:List UInt8}{P:Nat}(h:kS s P=1):s0 (xS s P)=true:=by
 unfold kS at h;unfold xS;unfold t8 at h⊢;by_cases hg:(G (s.drop P)).2=true
 ·rw[aQj hg] at h⊢;exact aNA h
 ·rw[aQl hg] at h;exact absurd h (show¬(0:Int)=1 by decide)
theorem aNB {a b:List UInt8}(h: ¬a<b) (hne:a≠b):b<a:=by
 have:=aK7 a b;rw[BZ,BZ] at this;have h1:decide (a<b)=false:=by simpa using h
 have h2:decide (b=a)=false:=by simpa using fun e=>hne e.symm
 rw[h1,h2] at this;simpa using this.symm
theorem a6V {α:Type}(f:α->List UInt8) {x:α}{p:α->Bool}: ∀{l:List α},l.Pairwise (fun a b=>f a<f b)->(∀y∈l,f y≠f x)->(∀y∈l,p y= !decide (f y<f x))->
  (l.take ((l.findIdx? p).getD l.length)++[x]++l.drop ((l.findIdx? p).getD l.length)).Pairwise (fun a b=>f a<f b)
 |[],_,_,_=>by simp
 |a::t,hp,hne,hpp=>by
  rw[aR7] at hp;have hpa:=hpp a aQH;rw[aRm];by_cases h:f a<f x
  ·have hpf:p a=false:=by rw[hpa];simpa using h
   rw[hpf];have ih:=a6V f (x:=x) hp.2 (fun y hy=>hne y (aQy _ hy)) (fun y hy=>hpp y (aQy _ hy));have e:((if false=true then some 0 else(t.findIdx? p).map fun i=>i+1).getD (a::t).length)=(t.findIdx? p).getD t.length+1:=by
    cases t.findIdx? p<;>rfl
   rw[e,List.take_succ_cons,aSk,List.cons_append,List.cons_append,aR7];refine⟨fun y hy=> ?_,ih⟩;rw[aQt] at hy;rcases aRe.1 hy with hy|hy
   ·exact hp.1 y (List.mem_of_mem_take hy)
   ·rcases aQC.1 hy with rfl|hy
    ·exact h
    ·exact hp.1 y (List.mem_of_mem_drop hy)
  ·have hpt:p a=true:=by rw[hpa];simpa using h
   rw[hpt];have hx:f x<f a:=aNB h (hne a aQH);show ([]++[x]++(a::t)).Pairwise _;rw[List.nil_append,aRd,aR7];refine⟨fun y hy=> ?_,aR7.2 hp⟩;rcases aQC.1 hy with rfl|hy
   ·exact hx
   ·exact List.lt_trans hx (hp.1 y hy)
theorem aFT {α:Type}{l:List α}{x y:α}{k:Nat}(h:y∈l.take k++[x]++l.drop k):y=x\/y∈l:=by
 rw[aQt] at h;rcases aRe.1 h with h|h
 ·exact .inr (List.mem_of_mem_take h)
 ·rcases aQC.1 h with h|h
  ·exact .inl h
  ·exact .inr (List.mem_of_mem_drop h)
theorem aFU {α:Type}{l:List α}{x:α}{k:Nat}:(l.take k++[x]++l.drop k).length=l.length+1:=by
 simp only[aQm,aQM,aQw,aQ0];omega
theorem aNC {l:List (List UInt8)}(h:l.length<=20) (hx: ∀x∈l,s0 x=true):xM l=true:=by
 unfold xM;simp only[aQr,aQO,aQ7,aQq,aRP,aRl];exact⟨by omega,fun x hxl=>by simpa using hx x hxl⟩
theorem aFV {α:Type}{r:α->α->Prop}{l:List α}(h:l.Pairwise r) {i:Nat}(h0:0<i) (hi:i<l.length):r l[i-1] l[i]:=by
 rw[aRx] at h;exact h (i-1) i (by omega) hi (by omega)
theorem aND {l:List (List UInt8)}(h:l.length<=20) (hx: ∀x∈l,rP x=true) (hp:l.Pairwise (· < ·)):DH l=true:=by
 unfold DH;simp only[aQr,aQO,aQ7,aQq,aR5,aRl];refine⟨fun i hi=> ?_,by omega⟩;unfold UV;rw[C1 hi,hx _ (aRF hi)];by_cases h0:0<i
 ·rw[C1 (show i-1<l.length by omega),BZ];simp [aFV hp h0 hi]
 ·simp [h0]
theorem aNE {l:List qY}(h:l.length<=20) (hx: ∀x∈l,rP x.1=true/\s0 x.2.1=true) (hp:l.Pairwise (fun a b=>a.1<b.1)):wT l=true:=by
 unfold wT;simp only[aQr,aQO,aQ7,aQq,aR5,aRl];refine⟨fun i hi=> ?_,by omega⟩;unfold UW;obtain⟨a,b⟩:=hx _ (aRF hi);rw[C1 hi,a,b];by_cases h0:0<i
 ·rw[C1 (show i-1<l.length by omega),BZ];simp [aFV hp h0 hi]
 ·simp [h0]
theorem aNF {l:List (List UInt8)}{x:List UInt8}(h:xM l=true) (hl: ¬20<=l.length) (hx:s0 x=true):xM (l++[x])=true:=by
 obtain⟨h1,h2⟩:=JZ h;refine aNC (by rw[aQm,aQ0];omega) fun y hy=> ?_;rcases aRe.1 hy with hy|hy
 ·exact h2 y hy
 ·rw[aQx.1 hy];exact hx
theorem aNG {l:List (List UInt8)}{x:List UInt8}(h:DH l=true) (hl: ¬20<=l.length) (hx:rP x=true) (hn: ¬(l.any fun y=>decide (y=x))=true):DH (DK l x)=true:=by
 obtain⟨h1,h2,h3⟩:=VU h;have hne: ∀y∈l,y≠x:=fun y hy e=>hn (List.any_eq_true.2 ⟨y,hy,by simp [e]⟩);unfold DK wX;refine aND (by rw[aFU];omega) (fun y hy=> ?_) (a6V (fun y=>y) h3 hne fun y _=>by rw[BZ]);rcases aFT hy with rfl|hy
 ·exact hx
 ·exact h2 y hy
theorem aNH {l:List qY}{n v:List UInt8}(h:wT l=true) (hl: ¬20<=l.length) (hx:rP n=true) (hv:s0 v=true) (hn: ¬(l.any fun y=>decide (y.1=n))=true):wT (AE l n v)=true:=by
 obtain⟨h1,h2,h3⟩:=K0 h;have hne: ∀y∈l,y.1≠n:=fun y hy e=>hn (List.any_eq_true.2 ⟨y,hy,by simp [e]⟩);have hk:yQ l n=none:=by
  unfold yQ;rw[aRL];intro y hy;simpa using hne y hy
 unfold AE;rw[hk];show wT (l.take (DG l n)++[(n,v,())]++l.drop (DG l n))=true;unfold DG;refine aNE (by rw[aFU];omega) (fun y hy=> ?_) (a6V (fun y:qY=>y.1) (x:=(n,v,())) h3 hne fun y hy=> ?_)
 ·rcases aFT hy with rfl|hy
  ·exact⟨hx,hv⟩
  ·exact⟨(h2 y hy).1,(h2 y hy).2.2⟩
 ·rw[BZ];have:decide (y.1=n)=false:=by simpa using hne y hy
  rw[this,Bool.or_false]
structure K1 (sr tg:List UInt8) (cm fg:List (List UInt8)) (st:Int) (fd:List qY):Prop where
 sr:s0 sr=true
 tg:s0 tg=true
 cm:xM cm=true
 fg:DH fg=true
 st:0<=st/\st<=4
 fd:wT fd=true
theorem aNI:K1 [] [] [] [] 0 []:=⟨by decide,by decide,by decide,by decide,by decide,by decide⟩
theorem aOv (x:List UInt8) (h: ¬sX x<0):0<=sX x/\sX x<=4:=by
 refine⟨by omega,?_⟩;unfold sX at h⊢;cases hk:vY.findIdx? fun y=>decide (y=x) with
 |none=>exact show ((-1:Int))<=4 by decide
 |some k=>
  have hl:k<vY.length:=(aQX.1 hk).1;have hl':vY.length=5:=rfl;show ((k:Nat):Int)<=4;omega
section
variable {s:List UInt8}(hsm:s.length<=4000000000) {c:C4}{bad bad0 at0 e0:Int}{ends:List Int}{i:rG}{hd:Bool}
include hsm
def aNK (s:List UInt8) (P:Nat) (bad:Int) (rs:MI):Prop:=
 rs.2.2.1≠0\/∃(P':Nat) (sr tg:List UInt8) (cm fg:List (List UInt8)) (st:Int) (fd:List qY) (d1 d2 d3:Bool),P<P'/\P'<=s.length/\rs=((P':Int),bad,0,sr,tg,cm,fg,st,fd,d1,d2,d3)/\K1 sr tg cm fg st fd
theorem aNL {P:Nat}{sr tg:List UInt8}{cm fg:List (List UInt8)}{st:Int}{fd:List qY}{d1 d2 d3:Bool}(hP:P<=s.length) (hk:kS s P=2) (h:K1 sr tg cm fg st fd):
  ∃rs:MI,tU (s,(at0,(bad0,(e0,(c,(ends,())))))) i hd ((P:Int),bad,0,sr,tg,cm,fg,st,fd,d1,d2,d3)=some (.inl rs)/\aNK s P bad rs:=by
 have hPQ:P<nS s P:=B7 (by omega) (by omega);have hQ:=(s8 hP).2;have hR:=s8 hQ;rw[AH hsm hP hk];have hcl:=(JZ h.cm).1;have hfl:=(VU h.fg).1;have hdl:=(K0 h.fd).1;have e3:(3:Int)≠0:=by decide
 have e6:(6:Int)≠0:=by decide
 have e9:(9:Int)≠0:=by decide
 by_cases h1:xS s P=wY
 ·by_cases h20:20<=cm.length
  ·rw[aEL hsm hQ h1 h20,aQi];exact⟨_,rfl,.inl e6⟩
  ·rw[a6z hsm hQ h1 h20,aQi];by_cases k1:kS s (nS s P)=1
   ·rw[aQj k1];exact⟨_,rfl,.inr ⟨nS s (nS s P),_,_,_,_,_,_,_,_,_,by omega,by omega,rfl,h.sr,h.tg,aNF h.cm h20 (QF k1),h.fg,h.st,h.fd⟩⟩
   ·rw[aQl k1];exact⟨_,rfl,.inl e3⟩
 ·by_cases h2:xS s P=yT
  ·rw[a6A hsm hQ h2 (by omega),aQi];unfold EN;by_cases k1:kS s (nS s P)≠1
   ·rw[aQj k1];exact⟨_,rfl,.inl e3⟩
   ·rw[aQl k1];by_cases k2:rP (xS s (nS s P))=false
    ·rw[aQj k2];exact⟨_,rfl,.inl e3⟩
    ·rw[aQl k2];by_cases k3:(fd.any fun y=>decide (y.1=xS s (nS s P)))=true
     ·rw[aQj k3];exact⟨_,rfl,.inl e9⟩
     ·rw[aQl k3];by_cases k4:20<=fd.length
      ·rw[aQj k4];exact⟨_,rfl,.inl e6⟩
      ·rw[aQl k4];have hS:=s8 hR.2;by_cases k5:kS s (nS s (nS s P))≠1
       ·rw[aQj k5];exact⟨_,rfl,.inl e3⟩
       ·rw[aQl k5];exact⟨_,rfl,.inr ⟨nS s (nS s (nS s P)),_,_,_,_,_,_,_,_,_,by omega,by omega,rfl,h.sr,h.tg,h.cm,h.fg,h.st,aNH h.fd k4 (by simpa using k2) (QF (by omega)) k3⟩⟩
  ·cases hd with
   |true=>
    rw[aEM hsm hQ h1 h2,aQi];exact⟨_,rfl,.inl e3⟩
   |false=>
    by_cases h3:xS s P=CM
    ·rw[a6B hsm hQ h3 (by omega),aQi];unfold EO;by_cases k1:kS s (nS s P)≠2
     ·rw[aQj k1];exact⟨_,rfl,.inl e3⟩
     ·rw[aQl k1];by_cases k2:rP (xS s (nS s P))=false
      ·rw[aQj k2];exact⟨_,rfl,.inl e3⟩
      ·rw[aQl k2];by_cases k3:(fg.any fun y=>decide (y=xS s (nS s P)))=true
       ·rw[aQj k3];exact⟨_,rfl,.inl e9⟩
       ·rw[aQl k3];by_cases k4:20<=fg.length
        ·rw[aQj k4];exact⟨_,rfl,.inl e6⟩
        ·rw[aQl k4];exact⟨_,rfl,.inr ⟨nS s (nS s P),_,_,_,_,_,_,_,_,_,by omega,by omega,rfl,h.sr,h.tg,h.cm,aNG h.fg k4 (by simpa using k2) k3,h.st,h.fd⟩⟩
    ·rw[HK hsm hQ h1 h2 h3,aQi];by_cases k0:((decide (xS s P=sR)&&d1)||(decide (xS s P=sS)&&d2)||(decide (xS s P=tD)&&d3))=true
     ·rw[aQj k0];exact⟨_,rfl,.inl e9⟩
     ·rw[aQl k0];by_cases a1:xS s P=sR
      ·rw[aQj a1];by_cases k1:kS s (nS s P)=1
       ·rw[aQj k1];exact⟨_,rfl,.inr ⟨nS s (nS s P),_,_,_,_,_,_,_,_,_,by omega,by omega,rfl,QF k1,h.tg,h.cm,h.fg,h.st,h.fd⟩⟩
       ·rw[aQl k1];exact⟨_,rfl,.inl e3⟩
      ·rw[aQl a1];by_cases a2:xS s P=sS
       ·rw[aQj a2];by_cases k1:kS s (nS s P)=1
        ·rw[aQj k1];exact⟨_,rfl,.inr ⟨nS s (nS s P),_,_,_,_,_,_,_,_,_,by omega,by omega,rfl,h.sr,QF k1,h.cm,h.fg,h.st,h.fd⟩⟩
        ·rw[aQl k1];exact⟨_,rfl,.inl e3⟩
       ·rw[aQl a2];by_cases a3:xS s P=tD
        ·rw[aQj a3];by_cases k1:kS s (nS s P)=2
         ·rw[aQj k1];by_cases k2:sX (xS s (nS s P))<0
          ·rw[aQj k2];exact⟨_,rfl,.inl e3⟩
          ·rw[aQl k2];exact⟨_,rfl,.inr ⟨nS s (nS s P),_,_,_,_,_,_,_,_,_,by omega,by omega,rfl,h.sr,h.tg,h.cm,h.fg,aOv _ k2,h.fd⟩⟩
         ·rw[aQl k1];exact⟨_,rfl,.inl e3⟩
        ·rw[aQl a3];exact⟨_,rfl,.inl e3⟩
def aNM (s:List UInt8) (P:Nat) (bad:Int) (ends:List Int) (ro:S9⊕HO):Prop:=
 (∃r9,ro= .inl r9/\r9.2.2.1≠0)\/(∃r10,ro= .inr r10/\r10.2.2.1≠0)\/
 ∃(P':Nat) (sr tg:List UInt8) (cm fg:List (List UInt8)) (st:Int) (fd:List qY),P<=P'/\P'<=s.length/\ro= .inr ((P':Int),bad,0,ends++[(P':Int)],sr,tg,cm,fg,st,fd)/\K1 sr tg cm fg st fd
theorem aFW (he:ends.length<=5000): ∀(n P:Nat) (sr tg:List UInt8) (cm fg:List (List UInt8)) (st:Int) (fd:List qY) (d1 d2 d3:Bool),s.length-P<=n->P<=s.length->K1 sr tg cm fg st fd->
  ∃ro,pU (tU (s,(at0,(bad0,(e0,(c,(ends,())))))) i hd) ((P:Int),bad,0,sr,tg,cm,fg,st,fd,d1,d2,d3)=some ro/\aNM s P bad ends ro
 |n,P,sr,tg,cm,fg,st,fd,d1,d2,d3,hn,hP,h=>by
  by_cases hk:kS s P=2
  ·obtain⟨rs,h1,h2⟩:=aNL (c:=c) (bad:=bad) (bad0:=bad0) (at0:=at0) (e0:=e0) (ends:=ends) (i:=i) (hd:=hd) (d1:=d1) (d2:=d2) (d3:=d3) hsm hP hk h;rw[B8 h1];rcases h2 with h2|⟨P',sr',tg',cm',fg',st',fd',d1',d2',d3',p1,p2,rfl,h3⟩
   ·obtain⟨p,b,e,q1,q2,q3,q4,q5,q6,q7,q8,q9⟩:=rs;rw[uL (QA h2)];exact⟨_,rfl,.inl ⟨_,rfl,h2⟩⟩
   ·match n,hn with
    |0,hn=>exact absurd p2 (by omega)
    |n+1,hn=>
     obtain⟨ro,r1,r2⟩:=aFW he n P' sr' tg' cm' fg' st' fd' d1' d2' d3' (by omega) p2 h3;refine⟨ro,r1,?_⟩;rcases r2 with r2|r2|⟨P2,a1,a2,a3,a4,a5,a6,g1,g2,g3,g4⟩
     ·exact .inl r2
     ·exact .inr (.inl r2)
     ·exact .inr (.inr ⟨P2,a1,a2,a3,a4,a5,a6,by omega,g2,g3,g4⟩)
  ·by_cases hx:kS s P=3/\xS s P=[125]
   ·rw[uL (a6E hsm hP hx.1 hx.2 he)];have hQ:=s8 hP;exact⟨_,rfl,.inr (.inr ⟨nS s P,_,_,_,_,_,_,hQ.1,hQ.2,rfl,h⟩)⟩
   ·rw[uL (aEU hsm hP hk hx)];exact⟨_,rfl,.inr (.inl ⟨_,rfl,show (3:Int)≠0 by decide⟩)⟩
def aNN (s:List UInt8) (P:Nat) (bad:Int) (ends:List Int) (r:HO):Prop:=
 r.2.2.1≠0\/∃(P':Nat) (sr tg:List UInt8) (cm fg:List (List UInt8)) (st:Int) (fd:List qY),P<=P'/\P'<=s.length/\r=((P':Int),bad,0,ends++[(P':Int)],sr,tg,cm,fg,st,fd)/\K1 sr tg cm fg st fd
theorem aFX {x:List UInt8}{P:Nat}(hP:P<=s.length) (he:ends.length<=5000): ∃r,wQ (s,((P:Int),(bad,(0,(c,(ends,())))))) (i0 x) hd=some r/\aNN s P bad ends r:=by
 unfold wQ;rw[EM hsm hP,aQi];by_cases h1:(decide (kR (kS s P)=3)&&(decide (([123]:List UInt8)=[])||decide (xS s P=[123])))=true
 ·rw[w4 h1];dsimp only;have hQ:=s8 hP;obtain⟨ro,r1,r2⟩:=aFW (c:=c) (bad:=bad) (bad0:=bad) (at0:=(P:Int)) (e0:=0) (i:=i0 x) (hd:=hd) hsm he s.length (nS s P) [] [] [] [] 0 [] false false false (by omega) hQ.2 aNI;have r1':pU (tU (s,((P:Int),(bad,((0:Int),(c,(ends,())))))) (i0 x) hd) ((nS s P:Int),bad,0,(i0 x).2.1,(i0 x).2.2.1,(i0 x).2.2.2.1,(i0 x).2.2.2.2.1,(i0 x).2.2.2.2.2.1,(i0 x).2.2.2.2.2.2.1,false,false,false)=some ro:=r1;rw[r1'];rcases r2 with⟨r9,rfl,r2⟩ |⟨r10,rfl,r2⟩ |⟨P2,a1,a2,a3,a4,a5,a6,g1,g2,rfl,g4⟩
  ·exact⟨_,rfl,.inl r2⟩
  ·exact⟨_,rfl,.inl r2⟩
  ·exact⟨_,rfl,.inr ⟨P2,a1,a2,a3,a4,a5,a6,by omega,g2,rfl,g4⟩⟩
 ·rw[yS h1];dsimp only;rw[uL (QA (show (3:Int)≠0 by decide))];exact⟨_,rfl,.inl (show (3:Int)≠0 by decide)⟩
end
theorem aNO {id sr tg:List UInt8}{cm fg:List (List UInt8)}{st:Int}{fd:List qY}(hi:DJ id=true) (ht:s0 id=true) (h:K1 sr tg cm fg st fd):y4 (id,(sr,(tg,(cm,(fg,(st,(fd,())))))))=true:=by
 unfold DJ at hi;unfold y4;dsimp only;rw[aQr] at hi;rw[hi.1,hi.2,ht,h.sr,h.tg,h.cm,h.fg,h.fd,aRs h.st.1,aRs h.st.2];rfl
structure QG (es:List tI):Prop where
 len:es.length<=1000
 ok: ∀x∈es,y4 x=true
 pw:es.Pairwise (fun a b=>a.1≠b.1)
section
variable {s:List UInt8}(hsm:s.length<=4000000000) {bad:Int}{ends:List Int}{tag:List UInt8}{cms:List (List UInt8)}{fds:List qY}{es:List tI}
include hsm
def aNP (s:List UInt8) (P:Nat) (bad:Int) (ends:List Int) (es:List tI) (r:E5):Prop:=
 r.2.2.1≠0\/∃(P':Nat) (y:tI),P<P'/\P'<=s.length/\r=((P':Int),bad,0,es++[y],ends++[(P':Int)])/\QG (es++[y])
theorem aNQ {P:Nat}(hP:P<=s.length) (he:ends.length<=5000) (hes:QG es): ∃r,HH (s,((P:Int),(bad,(0,((tag,(cms,(fds,(es,())))),(ends,()))))))=some r/\aNP s P bad ends es r:=by
 have hQ:=s8 hP;have hR:=s8 hQ.2;have e3:(3:Int)≠0:=by decide
 unfold HH;rw[EM hsm hP,aQi];by_cases h0:(decide (kR (kS s P)=2)&&(decide (([101,110,116,114,121]:List UInt8)=[])||decide (xS s P=[101,110,116,114,121])))=true
 ·have hk:kS s P=2:=(AG (by decide) (by decide)).1 (by rw[aQr,aQq] at h0;exact h0.1);have hPQ:P<nS s P:=B7 (by omega) (by omega);rw[w4 h0];dsimp only;rw[BY hsm hQ.2 (by decide) (by decide),aQi];by_cases hk1:kS s (nS s P)=1
  ·rw[w4 (by simpa using hk1)];dsimp only;rw[aQl (show¬(!decide ((0:Int)=0))=true from by decide),a6I _ _ (show es.length<=5000 by have:=hes.len;omega),aQi,a6H];dsimp only;by_cases hid:(decide (xS s (nS s P)=[])||decide ((200:Int)<((xS s (nS s P)).length:Int)))=true
   ·rw[aQj hid];unfold rE;rw[wH];exact⟨_,rfl,.inl e3⟩
   ·rw[aQl hid];by_cases hdup:(es.any fun y=>decide (y.1=xS s (nS s P)))=true
    ·rw[aQj hdup];unfold rE;rw[wH];exact⟨_,rfl,.inl (show (9:Int)≠0 by decide)⟩
    ·rw[aQl hdup];by_cases hm:(1000:Int)<=(es.length:Int)
     ·rw[aQj (show decide ((1000:Int)<=(es.length:Int))=true from aRs hm)];unfold rE;rw[wH];exact⟨_,rfl,.inl (show (6:Int)≠0 by decide)⟩
     ·rw[aQl (show¬decide ((1000:Int)<=(es.length:Int))=true from by simpa using hm)];obtain⟨r,h1,h2⟩:=aFX (c:=(tag,(cms,(fds,(es,()))))) (bad:=bad) (hd:=false) (x:=xS s (nS s P)) hsm hR.2 he;have h1':wQ (s,((nS s (nS s P):Int),(bad,((0:Int),((tag,(cms,(fds,(es,())))),(ends,())))))) (xS s (nS s P),([],([],([],([],(0,([],()))))))) false=some r:=h1;rw[h1',aQi,aQj (by simp;omega),aQj (by simp;omega)];rcases h2 with h2|⟨P',sr,tg,cm,fg,st,fd,g1,g2,rfl,g3⟩
      ·exact⟨_,rfl,.inl h2⟩
      ·refine⟨_,rfl,.inr ⟨P',(xS s (nS s P),(sr,(tg,(cm,(fg,(st,(fd,()))))))),by omega,g2,rfl,?_,?_,?_⟩⟩
       ·rw[aQm,aQ0];omega
       ·intro x hx;rcases aRe.1 hx with hx|hx
        ·exact hes.ok x hx
        ·rw[aQx.1 hx];refine aNO ?_ (QF hk1) g3;unfold DJ;simp only[aRg,aQq,not_or] at hid;simp only[aQr,aQO,aQY,aQq];exact⟨hid.1,by omega⟩
       ·rw[aRD];refine⟨hes.pw,aR1 _ _,fun a ha b hb=> ?_⟩;rw[aQx.1 hb];intro e;exact hdup (List.any_eq_true.2 ⟨a,ha,aRs e⟩)
  ·rw[yS (by simpa using hk1)];dsimp only;rw[aQj (show (!decide ((3:Int)=0))=true from by decide)];exact⟨_,rfl,.inl e3⟩
 ·rw[yS h0];dsimp only;rw[Q9 hsm hP e3,aQi];dsimp only;rw[aQj (show (!decide ((3:Int)=0))=true from by decide)];exact⟨_,rfl,.inl e3⟩
theorem aFY {rr:Int×Int×Int×List UInt8×List (List UInt8)×List pR×List Int}: ∀(n P:Nat) (es:List tI) (ends:List Int),s.length-P<=n->P<=s.length->QG es->ends.length=es.length+1->
  ∃ro,pU (v6 s rr) ((P:Int),bad,0,es,ends)=some ro/\(ro.2.2.1=0->QG ro.2.2.2.1/\ro.2.2.2.2.length=ro.2.2.2.1.length+1)
 |n,P,es,ends,hn,hP,hes,hle=>by
  have hg:=PZ (JP hsm) hP;by_cases hlt:P+(G (s.drop P)).1<s.length
  ·obtain⟨r,h1,h2⟩:=aNQ (bad:=bad) (tag:=rr.2.2.2.1) (cms:=rr.2.2.2.2.1) (fds:=rr.2.2.2.2.2.1) hsm hP (show ends.length<=5000 by have:=hes.len;omega) hes;have hst:v6 s rr ((P:Int),bad,0,es,ends)=some (.inl r):=by
    unfold v6;dsimp only;rw[hg,aQj wW,aQj (show (decide ((0:Int)=0)&&decide (val (some (((P+(G (s.drop P)).1:Nat):Int)))<(s.length:Int)))=true from by
     show (decide ((0:Int)=0)&&decide (((P+(G (s.drop P)).1:Nat):Int)<(s.length:Int)))=true;simp;omega),h1,aQi]
   rw[B8 hst];rcases h2 with h2|⟨P',y,p1,p2,rfl,h3⟩
   ·obtain⟨p,b,e,q1,q2⟩:=r;have h2':e≠0:=h2;have hs2:v6 s rr (p,b,e,q1,q2)=some (.inr (p,b,e,q1,q2)):=by
     unfold v6;dsimp only;rw[aQj (by intro hh;simp [h2'] at hh),aQl (by simp [h2'])]
    rw[uL hs2];exact⟨_,rfl,fun h=>absurd h h2'⟩
   ·match n,hn with
    |0,hn=>exact absurd p2 (by omega)
    |n+1,hn=>exact aFY n P' _ _ (by omega) p2 h3 (by simp only[aQm,aQ0];omega)
  ·have hst:v6 s rr ((P:Int),bad,0,es,ends)=some (.inr ((P:Int),bad,0,es,ends)):=by
    unfold v6;dsimp only;rw[hg,aQj wW,aQl];show¬(decide ((0:Int)=0)&&decide (((P+(G (s.drop P)).1:Nat):Int)<(s.length:Int)))=true;simp;omega
   rw[uL hst];exact⟨_,rfl,fun _=>⟨hes,hle⟩⟩
def aNR (s:List UInt8) (r:H7):Prop:=
 r.2.2.1≠0\/∃(P':Nat) (tag:List UInt8) (cm:List (List UInt8)) (fd:List qY),P'<=s.length/\r=((P':Int),0,0,tag,cm,fd,[(P':Int)])/\tO tag=true/\xM cm=true/\wT fd=true
theorem aNS: ∃r,EH (s,((0:Int),((0:Int),((0:Int),((([]:List UInt8),(([]:List (List UInt8)),(([]:List pR),(([]:List rG),())))),(([]:List Int),()))))))=some r/\aNR s r:=by
 have hP:0<=s.length:=aRc _;have hQ:=s8 hP;have hR:=s8 hQ.2;have e3:(3:Int)≠0:=by decide
 have h1:vM (s,(((0:Nat):Int),((0:Int),((0:Int),((([]:List UInt8),(([]:List (List UInt8)),(([]:List pR),(([]:List rG),())))),(([]:List Int),())))))) 2 [99,97,116,97,108,111,103]=_:=EM hsm hP;have h1':vM (s,((0:Int),((0:Int),((0:Int),((([]:List UInt8),(([]:List (List UInt8)),(([]:List pR),(([]:List rG),())))),(([]:List Int),())))))) 2 [99,97,116,97,108,111,103]=_:=h1;unfold EH;rw[h1',aQi];by_cases h0:(decide (kR (kS s 0)=2)&&(decide (([99,97,116,97,108,111,103]:List UInt8)=[])||decide (xS s 0=[99,97,116,97,108,111,103])))=true
 ·rw[w4 h0];dsimp only;rw[BY hsm hQ.2 (by decide) (by decide),aQi];by_cases hk1:kS s (nS s 0)=1
  ·rw[w4 (by simpa using hk1)];dsimp only;rw[PR _ (MH hsm hQ.2),aQj wW];by_cases ht:tO (xS s (nS s 0))=true
   ·rw[aQl (show¬(decide ((0:Int)=0)&& !val (some (tO (xS s (nS s 0)))))=true from by rw[ht];decide)];unfold qZ;rw[aQi];dsimp only;obtain⟨r,g1,g2⟩:=aFX (c:=([],([],([],([],()))))) (bad:=0) (ends:=[]) (hd:=true) (x:=[]) hsm hR.2 (by decide);have g1':wQ (s,((nS s (nS s 0):Int),((0:Int),((0:Int),(([],([],([],([],())))),(([]:List Int),())))))) ([],([],([],([],([],(0,([],()))))))) true=some r:=g1;rw[g1',aQi];rcases g2 with g2|⟨P',sr,tg,cm,fg,st,fd,q1,q2,rfl,q3⟩
    ·exact⟨_,rfl,.inl g2⟩
    ·exact⟨_,rfl,.inr ⟨P',_,_,_,q2,rfl,ht,q3.cm,q3.fd⟩⟩
   ·rw[aQj (show (decide ((0:Int)=0)&& !val (some (tO (xS s (nS s 0)))))=true from by rw[show tO (xS s (nS s 0))=false from by simpa using ht];decide)];unfold rE;rw[wH];unfold qZ;rw[aQi];dsimp only;obtain⟨ro,hro,g1,g2⟩:=MJ (P:=nS s (nS s 0)) (c2:=([],([],([],([],()))))) (bad:=(fS s (nS s 0):Int)) (e:=3) (ends2:=[]) (hd:=true) (i:=i0 []) hsm hR.2 (by decide);have hro':wQ (s,((nS s (nS s 0):Int),((fS s (nS s 0):Int),((3:Int),(([],([],([],([],())))),(([]:List Int),())))))) ([],([],([],([],([],(0,([],()))))))) true=some ro:=hro;rw[hro',aQi];exact⟨_,rfl,.inl (by show ro.2.2.1≠0;rw[g2];decide)⟩
  ·rw[yS (by simpa using hk1)];dsimp only;rw[aQj (by intro hh;simp at hh),aQl (show¬(decide ((3:Int)=0)&& !val (J9 (xS s (nS s 0))))=true from by simp)];unfold qZ;rw[aQi];dsimp only;obtain⟨ro,hro,g1,g2⟩:=MJ (P:=nS s 0) (c2:=([],([],([],([],()))))) (bad:=(fS s (nS s 0):Int)) (e:=3) (ends2:=[]) (hd:=true) (i:=i0 []) hsm hQ.2 (by decide);have hro':wQ (s,((nS s 0:Int),((fS s (nS s 0):Int),((3:Int),(([],([],([],([],())))),(([]:List Int),())))))) ([],([],([],([],([],(0,([],()))))))) true=some ro:=hro;rw[hro',aQi];exact⟨_,rfl,.inl (by show ro.2.2.1≠0;rw[g2];decide)⟩
 ·rw[yS h0];dsimp only;have h2:vM (s,(((0:Nat):Int),((fS s 0:Int),((3:Int),((([]:List UInt8),(([]:List (List UInt8)),(([]:List pR),(([]:List rG),())))),(([]:List Int),())))))) 1 []=_:=Q9 hsm hP e3;rw[h2,aQi];dsimp only;rw[aQj (by intro hh;simp at hh),aQl (show¬(decide ((3:Int)=0)&& !val (J9 (xS s 0)))=true from by simp)];unfold qZ;rw[aQi];dsimp only;obtain⟨ro,hro,g1,g2⟩:=MJ (P:=0) (c2:=([],([],([],([],()))))) (bad:=(fS s 0:Int)) (e:=3) (ends2:=[]) (hd:=true) (i:=i0 []) hsm hP (by decide);have hro':wQ (s,(((0:Nat):Int),((fS s 0:Int),((3:Int),(([],([],([],([],())))),(([]:List Int),())))))) ([],([],([],([],([],(0,([],()))))))) true=some ro:=hro;rw[hro',aQi];exact⟨_,rfl,.inl (by show ro.2.2.1≠0;rw[g2];decide)⟩
omit hsm in
theorem aNT {c:C4}(h1:tO c.1=true) (h2:xM c.2.1=true) (h3:wT c.2.2.1=true) (h4:QG c.2.2.2.1):wI c=true:=by
 unfold wI;rw[h1,h2,h3,aRs (show ((c.2.2.2.1.length:Int))<=1000 by have:=h4.len;omega)];simp only[Bool.true_and,aQO,aQ7,aR5,aRl];intro i hi;unfold G6;rw[C1 hi,h4.ok _ (aRF hi)];simp only[Bool.not_true,Bool.or_false,aQ7,aQq];intro y hy;rw[List.mem_take_iff_getElem] at hy;obtain⟨j,hj,rfl⟩:=hy;exact aRx.1 h4.pw j i (by omega) hi (by omega)
theorem aFZ: ∃v,G2 s=some v/\(v.2.2.2.2.2.2=0->wI (v.1,(v.2.1,(v.2.2.1,(v.2.2.2.1,()))))=true)/\(v.2.2.2.2.2.2≠0->v.1=[]/\v.2.1=[]/\v.2.2.1=[]/\v.2.2.2.1=[]/\v.2.2.2.2.1=[])/\(v.2.2.2.2.2.2=0->v.2.2.2.2.2.1=0/\v.2.2.2.2.1.length=v.2.2.2.1.length+1):=by
 obtain⟨r,h1,h2⟩:=aNS hsm;unfold G2;rw[h1,aQi];rcases h2 with h2|⟨P',tag,cm,fd,p1,rfl,t1,t2,t3⟩
 ·obtain⟨p,b,e,q1,q2,q3,q4⟩:=r;have h2':e≠0:=h2;have hs2:v6 s (p,b,e,q1,q2,q3,q4) (p,b,e,[],q4)=some (.inr (p,b,e,[],q4)):=by
   unfold v6;dsimp only;rw[aQj (by intro hh;simp [h2'] at hh),aQl (by simp [h2'])]
  dsimp only;rw[uL hs2];unfold qZ;rw[aQi];dsimp only;rw[aQj (by simp [h2'])];exact⟨_,rfl,fun h=>absurd h h2',fun _=>⟨rfl,rfl,rfl,rfl,rfl⟩,fun h=>absurd h h2'⟩
 ·dsimp only;obtain⟨ro,g1,g2⟩:=aFY (bad:=0) (rr:=((P':Int),0,0,tag,cm,fd,[(P':Int)])) hsm s.length P' [] [(P':Int)] (by omega) p1 ⟨by decide,fun x hx=>(by cases hx),List.Pairwise.nil⟩ (by simp);rw[g1];unfold qZ;rw[aQi];obtain⟨p,b,e,q1,q2⟩:=ro;dsimp only;by_cases he:e=0
  ·rw[aQl (by simp [he])];exact⟨_,rfl,fun _=>aNT t1 t2 t3 (g2 he).1,fun h=>absurd rfl h,fun _=>⟨rfl,(g2 he).2⟩⟩
  ·rw[aQj (by simp [he])];exact⟨_,rfl,fun h=>absurd h he,fun _=>⟨rfl,rfl,rfl,rfl,rfl⟩,fun h=>absurd h he⟩
end
section
variable {s:List UInt8}(hsm:s.length<=4000000000)
include hsm
theorem aF0: ∃v,B4 s=some v/\PN s=some v/\pQ v.2.1/\pQ v.2.2.1/\pQ v.2.2.2.1/\∀y∈v.2.2.2.1,VL y:=by
 obtain⟨ph,rh,hph,hrh,hres⟩:=aFl (P:=0) (a:=0) (en:=0) (bad:=0) (c:=([],([],([],([],()))))) (c2:=([],([],([],([],()))))) (ends:=[]) (ids:=[]) hsm (aRc _) (by decide);have hnx:=a6x hsm (aRc s.length);have hnx':B1 (s,((0:Int),()))=some (kS s 0,xS s 0,(fS s 0:Int),(nS s 0:Int),(nS s 0:Int)):=hnx;have hrh':EH (s,((0:Int),((0:Int),((0:Int),((([]:List UInt8),(([]:List (List UInt8)),(([]:List pR),(([]:List rG),())))),(([]:List Int),()))))))=some rh:=hrh;unfold B4 v8 PN G2;rw[hnx',aQi];dsimp only;rw[hph,aQi,hrh',aQi];rcases hres with⟨P',tag,cm,fd,g1,g2,rfl,rfl,f1,f2⟩ |hb
 ·obtain⟨po,ro,h1,h2,h3⟩:=a6P (a:=0) (bad:=0) (hp:=((nS s P':Int),kS s P',xS s P',(fS s P':Int),(nS s P':Int),0,0,tag,cm,fd,[]++[(P':Int)],(P':Int))) (hr:=((P':Int),0,0,tag,cm,fd,[]++[(P':Int)])) hsm s.length P' [] ([]++[(P':Int)]) (P':Int) [] (by omega) g2 (by decide) (by simp) (fun _=>rfl) (fun _ h=>by cases h) (aFm P');dsimp only;rw[h1,h2];unfold qZ;rw[aQi,aQi];dsimp only;rw[aQi];rcases h3 with⟨e1,e2,e3,e4,e5,e6,_,_⟩ |⟨e1,e2,e3⟩
  ·rw[aQl (by simp [e1]),aQl (by simp [e2]),aQi,e3];exact⟨_,rfl,rfl,f1,f2,(show pQ po.2.2.2.2.2.2.2.1 from by unfold pQ;omega),e6⟩
  ·rw[aQj (by simp [e1]),aQj (by simp [e3,e1]),aQi,e2,e3];exact⟨_,rfl,rfl,MN,MN,MN,fun _ h=>by cases h⟩
 ·obtain⟨b1,b2,b3⟩:=hb;have e3:BW s ph (ph.1,ph.2.1,ph.2.2.1,ph.2.2.2.1,ph.2.2.2.2.1,ph.2.2.2.2.2.1,ph.2.2.2.2.2.2.1,[],ph.2.2.2.2.2.2.2.2.2.2.1,ph.2.2.2.2.2.2.2.2.2.2.2,[])=some (.inr (ph.1,ph.2.1,ph.2.2.1,ph.2.2.2.1,ph.2.2.2.2.1,ph.2.2.2.2.2.1,ph.2.2.2.2.2.2.1,[],ph.2.2.2.2.2.2.2.2.2.2.1,ph.2.2.2.2.2.2.2.2.2.2.2,[])):=by
   unfold BW;dsimp only;rw[aQl (by simp [b1])]
  have e4:v6 s rh (rh.1,rh.2.1,rh.2.2.1,[],rh.2.2.2.2.2.2)=some (.inr (rh.1,rh.2.1,rh.2.2.1,[],rh.2.2.2.2.2.2)):=by
   have h3:rh.2.2.1≠0:=by rw[b3];exact b1
   unfold v6;dsimp only;rw[aQj (by intro hh;simp [h3] at hh),aQl (by simp [h3])]
  rw[uL e3,uL e4];unfold qZ;rw[aQi,aQi];dsimp only;rw[aQi];dsimp only;rw[aQj (by simp [b1]),aQj (by simp [b3,b1]),aQi,b2,b3];exact⟨_,rfl,rfl,MN,MN,MN,fun _ h=>by cases h⟩
end
end Go.Proofs.YtbbpilohihldiaaGreatDoor
namespace Go.Proofs.YtbbpilohihldiaaGreatDoor
open Vc
set_option maxRecDepth 1000000
end Go.Proofs.YtbbpilohihldiaaGreatDoor
namespace Go.Proofs.YtbbpilohihldiaaGreatDoor
open Vc
theorem BC {x:List UInt8}(h:s0 x=true):x.length≤4000:=by
  unfold s0 at h;simp only[aQr,aQq] at h;omega
structure a6W (x:tI):Prop where
  id:x.1.length≤4000
  src:x.2.1.length≤4000
  tgt:x.2.2.1.length≤4000
  com:x.2.2.2.1.length≤20∧∀y∈x.2.2.2.1,y.length≤4000
  flg:x.2.2.2.2.1.length≤20∧∀y∈x.2.2.2.2.1,y.length≤4000
  fld:x.2.2.2.2.2.2.1.length≤20∧∀y∈x.2.2.2.2.2.2.1,y.1.length≤4000∧y.2.1.length≤4000
theorem aF1 {x:tI}(h:y4 x=true):a6W x:=by
  have h':=h;unfold y4 at h';simp only[aQr] at h';obtain⟨⟨⟨⟨⟨⟨⟨⟨hne,h200⟩,hid⟩,hsrc⟩,htgt⟩,hcom⟩,hflg⟩,_⟩,hfld⟩:=h';obtain⟨c1,c2⟩:=JZ hcom;obtain⟨f1,f2,f3⟩:=VU hflg;obtain⟨g1,g2,g3⟩:=K0 hfld;exact⟨BC hid,BC hsrc,BC htgt,⟨c1,fun y hy=>BC (c2 y hy)⟩,⟨f1,fun y hy=>BC (aFN (f2 y hy))⟩,⟨g1,fun y hy=>⟨BC (g2 y hy).2.1,BC (g2 y hy).2.2⟩⟩⟩
theorem a6X {l:List (List UInt8)}(h:l.length≤20∧∀y∈l,y.length≤4000):G7 l:=⟨by omega,fun y hy=>by have:=h.2 y hy;omega⟩
theorem aF2 {l:List qY}(h:l.length≤20∧∀y∈l,y.1.length≤4000∧y.2.1.length≤4000):JT l:=⟨by omega,fun y hy=>by have:=h.2 y hy;omega⟩
theorem a6W.few {x:tI}(h:a6W x):ML x:=⟨by have:=h.id;omega,by have:=h.src;omega,by have:=h.tgt;omega,a6X h.com,a6X h.flg,aF2 h.fld⟩
theorem aNU {c:C4}(h:wI c=true):HR c:=by
  obtain⟨h1,h2,h3,h4,h5,_⟩:=VW h;obtain⟨c1,c2⟩:=JZ h2;obtain⟨g1,g2,g3⟩:=K0 h3;refine⟨?_,a6X ⟨c1,fun y hy=>BC (c2 y hy)⟩,aF2 ⟨g1,fun y hy=>⟨BC (g2 y hy).2.1,BC (g2 y hy).2.2⟩⟩,h4,fun x hx=>(aF1 (h5 x hx)).few⟩;unfold tO at h1;simp only[aQr,aQq] at h1;omega
theorem MP {s:List UInt8}(h:s.length≤4000):(q3 s).length≤24002:=by
  have:=aFc (n:=3) (.inr rfl) s;unfold q3;simp only[aQm,aQ0];omega
theorem aF3 {l:List (List UInt8)}(h:l.length≤20∧∀y∈l,y.length≤4000):(AI l).length≤480260:=by
  have:=HT (l:=l) (h:=CP) (B:=24013) fun x hx=>by
    have:=MP (h.2 x hx);unfold CP;simp only[aQm,aQp,aQG];omega
  unfold AI;omega
theorem aF4 {l:List qY}(h:l.length≤20∧∀y∈l,y.1.length≤4000∧y.2.1.length≤4000):(xQ l).length≤960280:=by
  have:=HT (l:=l) (h:=C0) (B:=48014) fun x hx=>by
    have h1:=MP (h.2 x hx).1;have h2:=MP (h.2 x hx).2;unfold C0;simp only[aQm,aQp,aQG];omega
  unfold xQ;omega
theorem aNV {l:List (List UInt8)}(h:l.length≤20∧∀y∈l,y.length≤4000):(x9 l).length≤80160:=by
  have:=HT (l:=l) (h:=BA) (B:=4008) fun x hx=>by
    have:=h.2 x hx;unfold BA;simp only[aQm,aQp,aQG];omega
  unfold x9;omega
theorem aF5 {p s:List UInt8}(hp:p.length≤10) (h:s.length≤4000):(xA p s).length≤24012:=by
  have:=MP h;unfold xA;split
  ·simp
  ·rw[aQm];omega
theorem aNW {x:tI}(h:y4 x=true):(tE x).length≤1600000:=by
  have hs:=aF1 h;obtain⟨r0,r4⟩:=VQ h;have a1:=MP hs.id;have a2:=aF3 hs.com;have a3:=aF5 (p:=JW) (by decide) hs.src;have a4:=aF5 (p:=JX) (by decide) hs.tgt;have a5:=aFz r0 r4;have a6:=aNV hs.flg;have a7:=aF4 hs.fld;unfold tE JY DO DN G8;simp only[aQm,aQp,aQG];omega
theorem aNX {c:C4}(h:wI c=true):(vQ c).length≤1500000:=by
  obtain⟨h1,h2,h3,_⟩:=VW h;obtain⟨c1,c2⟩:=JZ h2;obtain⟨g1,g2,g3⟩:=K0 h3;have a1:=MP (BC (aFO h1));have a2:=aF3 ⟨c1,fun y hy=>BC (c2 y hy)⟩;have a3:=aF4 ⟨g1,fun y hy=>⟨BC (g2 y hy).2.1,BC (g2 y hy).2.2⟩⟩;unfold vQ;simp only[aQm,aQp,aQG];omega
theorem aNY {c:C4}(h:wI c=true):(BB c).length≤4000000000:=by
  obtain⟨_,_,_,h4,h5,_⟩:=VW h;have a1:=aNX h;have a2:=HT (l:=c.2.2.2.1) (h:=tE) (B:=1600000) fun x hx=>aNW (h5 x hx);have e:(c.2.2.2.1.map tE).flatten=c.2.2.2.1.flatMap tE:=by rw[List.flatMap_def]
  unfold BB DM;rw[e];simp only[aQm,aQp,aQG];omega
theorem aNZ {s:List UInt8}(hsm:s.length≤4000000000): ∃v,B4 s=some v∧(v.2.2.2.2.2=0→wI (v.1,(v.2.1,(v.2.2.1,(v.2.2.2.1,()))))=true)∧(v.2.2.2.2.2≠0→v.1=[]∧v.2.1=[]∧v.2.2.1=[]∧v.2.2.2.1=[]):=by
  obtain⟨v,h1,h2,_⟩:=aF0 hsm;obtain⟨w,g1,g2,g3,_⟩:=aFZ hsm;unfold PN at h2;rw[g1,aQi] at h2;cases h2;exact⟨_,h1,g2,fun h=>⟨(g3 h).1,(g3 h).2.1,(g3 h).2.2.1,(g3 h).2.2.2.1⟩⟩
def yV:Nat->List (List UInt8)->List Nat
 |_,[]=>[]
 |a,x::ps=>(a+x.length)::yV (a+x.length) ps
theorem VX: ∀(a:Nat) (ps:List (List UInt8)),(yV a ps).length=ps.length
 |_,[]=>rfl
 |a,x::ps=>by rw[yV,aQp,aQp,VX]
theorem VY: ∀(ps:List (List UInt8)) (a j:Nat),j<=ps.length->(a::yV a ps).getD j 0=a+(ps.take j).flatten.length
 |_,a,0,_=>by simp
 |[],_,_+1,h=>by simp at h
 |x::ps,a,j+1,h=>by
  rw[yV,List.getD_cons_succ,VY ps (a+x.length) j (by simpa using h),List.take_succ_cons,aRI,aQm];omega
theorem aN0 (ps:List (List UInt8)) (j:Nat):ps.flatten=(ps.take j).flatten++(ps.drop j).flatten:=by
 rw[<-List.flatten_append,aRy]
theorem a6Y {s a b c:List UInt8}(h:s=a++(b++c)):pH s (a.length:Nat) ((a.length+b.length:Nat):Int)=b:=by
 unfold pH;rw[aQ2,aQ2,h,aRY,aQ4,aRw]
theorem aF6 {s:List UInt8}{l:List Nat}{j:Nat}(h:j<l.length):(zR s l)[j]? =some (pc s l j):=by
 unfold zR;rw[List.getElem?_map,List.getElem?_range h];rfl
section
variable {s p0 t:List UInt8}{ps:List (List UInt8)}(hs:s=p0++(ps.flatten++t))
include hs
theorem aN1:pc s (p0.length::yV p0.length ps) 0=p0:=by
 have h:s=[]++(p0++(ps.flatten++t)):=hs;have:=a6Y h;simp only[aQG,aQV] at this;exact this
theorem aN2:(zR s (p0.length::yV p0.length ps)).drop 1=ps:=by
 apply List.ext_getElem?;intro j;rw[List.getElem?_drop];by_cases hj:j<ps.length
 ·rw[aF6 (by rw[aQp,VX];omega),aQs hj];congr 1;have e1:(p0.length::yV p0.length ps).getD j 0=p0.length+(ps.take j).flatten.length:=VY ps _ j (by omega);have e2:(p0.length::yV p0.length ps).getD (1+j) 0=p0.length+(ps.take (1+j)).flatten.length:=VY ps _ _ (by omega);have e3:(ps.take (1+j)).flatten=(ps.take j).flatten++ps[j]:=by
   rw[Nat.add_comm,List.take_add_one,aQs hj,List.flatten_append];simp
  have e4:s=(p0++(ps.take j).flatten)++(ps[j]++((ps.drop (j+1)).flatten++t)):=by
   rw[hs,aN0 ps j,aQL hj,aRI];simp only[aQt]
  have e5:=a6Y e4;rw[aQm] at e5;show pH s ((if 1+j=0 then 0 else(p0.length::yV p0.length ps).getD (1+j-1) 0:Nat):Int) (((p0.length::yV p0.length ps).getD (1+j) 0:Nat):Int)=_;rw[aQl (by omega),aQ4,e1,e2,e3,aQm,<-aQ1];exact e5
 ·rw[aRu (show ps.length<=j by omega),aRu];simp [VX];omega
theorem aN3:pH s (HV (p0.length::yV p0.length ps):Nat) (s.length:Int)=t:=by
 have e1:HV (p0.length::yV p0.length ps)=p0.length+ps.flatten.length:=by
  unfold HV;rw[aQp,VX,Nat.add_sub_cancel,VY ps _ _ (aQF _),List.take_length]
 have e4:s=(p0++ps.flatten)++(t++[]):=by rw[hs];simp
 have e5:=a6Y e4;rw[aQm] at e5;have e6:s.length=p0.length+ps.flatten.length+t.length:=by rw[hs];simp only[aQm];omega
 rw[e1,e6];exact e5
end
theorem a6Z {s:List UInt8}{a b:Nat}(h:a<=b):s.take a++pH s (a:Int) (b:Int)=s.take b:=by
 unfold pH;rw[aQ2,aQ2];have e:b=a+(b-a):=by omega
 conv=>rhs;rw[e,List.take_add]
theorem aF7 {s:List UInt8}{l:List Nat}(hs:l.Pairwise (·<=·)): ∀(k:Nat),k<l.length->((List.range (k+1)).map (pc s l)).flatten=s.take (l.getD k 0)
 |0,h=>by
  show (pH s ((0:Nat):Int) _)++[]=_;rw[List.append_nil];have:=a6Z (s:=s) (aRc (l.getD 0 0));rw[List.take_zero,List.nil_append] at this;exact this
 |k+1,h=>by
  rw[List.range_succ,List.map_append,List.flatten_append,aF7 hs k (by omega)];show _++((pc s l (k+1))++[])=_;rw[List.append_nil];exact a6Z (aFo hs (by omega) h)
theorem aN4 {s:List UInt8}{l:List Nat}(hne:l≠[]) (hs:l.Pairwise (·<=·)) (hle: ∀x∈l,x<=s.length):DM (pc s l 0) ((zR s l).drop 1) (pH s (HV l:Nat) (s.length:Int))=s:=by
 have hpos:0<l.length:=aRH.2 hne;have h1:=aF7 (s:=s) hs (l.length-1) (by omega);rw[show l.length-1+1=l.length by omega] at h1;have h2:(zR s l).flatten=pc s l 0++((zR s l).drop 1).flatten:=by
  have e:zR s l=pc s l 0::(zR s l).drop 1:=by
   cases hp:zR s l with
   |nil=>
    have:=aQW List.length hp;simp at this;exact absurd this hne
   |cons x r=>
    have:=aF6 (s:=s) hpos;rw[hp] at this;rw[aQo this];rfl
  conv=>lhs;rw[e,aRI]
 have h3:=a6Z (s:=s) (VO hle (show l.length-1<l.length by omega));rw[List.take_length] at h3;unfold DM;rw[<-aQt,<-h2];show ((List.range l.length).map (pc s l)).flatten++_=s;rw[h1];exact h3
theorem aF8: ∀(es:List tI) (n a:Nat),n=a+((es.map tE).flatten++[10]).length->HX n es=(yV a (es.map tE)).map fun n:Nat=>(n:Int)
 |[],_,_,_=>rfl
 |x::es,n,a,h=>by
  rw[aRt,aRI,aQt,aQm] at h;rw[HX,aRt,yV,aRt,aF8 es n (a+(tE x).length) (by omega)];congr 2;omega
theorem aN5 {c:C4}(h:wI c=true):B5 (BB c)=some (vQ c,c.2.2.2.1.map tE,[10],0):=by
 have hsm:=aNY h;obtain⟨n,hn,hR⟩:=aNz h hsm;obtain⟨r,v,h1,h2,h3⟩:=aFn hsm;rw[hR] at h2;cases h2;have hs:BB c=vQ c++((c.2.2.2.1.map tE).flatten++[10]):=rfl;rcases h3 with⟨e1,e2,e3,⟨l,g1,g2,g3,g4⟩,e5⟩ |⟨e1,e2⟩
 ·have hl:l=(vQ c).length::yV (vQ c).length (c.2.2.2.1.map tE):=by
   have e3':((n:Int)::HX (BB c).length c.2.2.2.1)=l.map fun n:Nat=>(n:Int):=by rw[<-g1];exact e3
   rw[aF8 _ _ n (by rw[hs,hn,aQm]),hn] at e3';have inj:Function.Injective (fun n:Nat=>(n:Int)):=fun a b hab=>by
    have hab':(a:Int)=(b:Int):=hab;omega
   exact((List.map_inj_right (f:=fun n:Nat=>(n:Int)) (fun a b hab=>inj hab)).1 (show (((vQ c).length::yV (vQ c).length (c.2.2.2.1.map tE)).map fun n:Nat=>(n:Int))=_ from e3')).symm
  rw[g1,aRq] at e5;rw[aFp hsm g2 g3 g4 (by omega) h1 e1 g1,hl,aN1 hs,aN2 hs,aN3 hs]
 ·exact absurd e2.symm e1
theorem aN6 (s:List UInt8):JJ s=some true:=by
 unfold JJ;rw[aMU,aQi,aQl (by decide)];by_cases h:decide ((4000:Int)<(s.length:Int))=true
 ·rw[aQj h]
 ·rw[aQl h];have hsm:s.length<=4000000000:=by simp at h;omega
  obtain⟨r,v,h1,h2,h3⟩:=aFn hsm;obtain⟨w,q1,q2,q3⟩:=aNZ hsm;obtain⟨v',g1',_,_,g4'⟩:=aFZ hsm;rw[h2] at g1';cases g1';obtain⟨u,u1,u2,_⟩:=aF0 hsm;have hw:w=(v.1,v.2.1,v.2.2.1,v.2.2.2.1,v.2.2.2.2.2.1,v.2.2.2.2.2.2):=by
   rw[q1] at u1;cases u1;unfold PN at u2;rw[h2,aQi] at u2;exact(aQo u2).symm
  rcases h3 with⟨e1,e2,e3,⟨l,g1,g2,g3,g4⟩,e5⟩ |⟨e1,e2⟩
  ·rw[g1,aRq] at e5;have hS:=aFp hsm g2 g3 g4 (by omega) h1 e1 g1;rw[hS,aQi,q1,aQi];have hwe:w.2.2.2.2.2=0:=by rw[hw];exact e2
   dsimp only;rw[aQl (by rw[hwe];simp)];have hok:=q2 hwe;have hw2:=aNU hok;rw[aM8 hw2,aQj hok,aQi];dsimp only;rw[aN5 hok,aQi,aFG hw2,aQj hok,aQi];have hbody:=aN4 g2 g3 g4;have hlen:(List.drop 1 (zR s l)).length=l.length-1:=by simp
   rw[a6M (pc s l 0,((zR s l).drop 1,(pH s (HV l:Nat) (s.length:Int),()))) (by show (List.drop 1 (zR s l)).length<=_;omega) (by show (DM _ _ _).length<=_;rw[hbody];omega),aQi];dsimp only;rw[hbody];have hcnt:(List.drop 1 (zR s l)).length=w.2.2.2.1.length:=by
    have:=(g4' e2).2;rw[e3,g1,aRq] at this;rw[hlen,hw];show l.length-1=v.2.2.2.1.length;omega
   have hd:=aMX (vQ (w.1,(w.2.1,(w.2.2.1,(w.2.2.2.1,())))),((w.2.2.2.1.map tE),(([10]:List UInt8),()))) (by
    have:=hw2.len;show (w.2.2.2.1.map tE).length<=5000;rw[aRq];have h9:w.2.2.2.1.length<=1000:=this;omega)
   rw[hd,aQj wW,hcnt];simp [val]
  ·have hS:B5 s=some ([],[],[],r.2.2.2.2.2.2.1):=by
    unfold B5;rw[h1,aQi,aQj (by simp [e1])]
   rw[hS,aQi,q1,aQi];have hwe:w.2.2.2.2.2=r.2.2.2.2.2.2.1:=by rw[hw];exact e2
   dsimp only;rw[hwe,aQj (by simp [e1])];simp
end Go.Proofs.YtbbpilohihldiaaGreatDoor
namespace Go.Proofs.YtbbpilohihldiaaGreatDoor
open Go.ChangeShapes Go.WideShapes Go.ChangeAt Go.RowKit
section
variable {H:Type}{enc:TypeId×Value->H}{P:Program}
theorem aN7 (hl:laidOutB P=true) {W W':World}(hb:Below W.heap.size W W'):
  ∀{ts:List TypeId}{vs:List Value}{ds:List (DataW H)}{ps:List MemPlace},(∀t∈ts,P.readableRec t=true/\t<P.types.size)->
  DataW.TrodAll enc P W 0 (fun _=>true) true ts vs ds ps->(∀x∈ps,x.block<W.heap.size)->
  DataW.TrodAll enc P W' 0 (fun b=>decide (b<W.heap.size)) true ts vs ds ps:=by
 intro ts
 induction ts with
 |nil=>
  intro vs ds ps _ h _;obtain⟨rfl,rfl,rfl⟩:=trodAll_nil h;exact trodAll_mk0
 |cons t ts ih=>
  intro vs ds ps hr h hlt;obtain⟨v,vs',d,ds',p,q,rfl,rfl,rfl,h0,r0⟩:=trodAll_cons h;exact trodAll_cons_mk (Below.trod hl (hr t (by simp)).1 (hr t (by simp)).2 h0 hb (fun x hx=>hlt x (by simp [hx]))) (ih (fun t' ht'=>hr t' (by simp [ht'])) r0 (fun x hx=>hlt x (by simp [hx])))
theorem aN8 {f:Func}{s:ChangeSpec}{W W':World}{args:Array Value}{ds gs:List (DataW H)}{before:List MemPlace}{tb:TypeId}
  (hl:laidOutB P=true) (hr: ∀t∈f.params.toList,P.readableRec t=true/\t<P.types.size)
  (hW:DataW.Whole enc P f.params.toList s.vars false W args.toList ds gs before) (hv:s.vars=[])
  (hfn:s.fn H ds={results:=[.lit (.bool true)],args:=ds}) (hrt:f.resultTypes= #[tb]) (htb:P.underlying tb=some .bool)
  (hb:Below W.heap.size W W'):s.post enc P f false true false false W args (.bool true) W':=by
 have hW':=hW;obtain⟨p,q,hA,hV,rfl,hfz,hnd⟩:=hW;rw[hv] at hV;obtain⟨rfl,rfl⟩:=trodVars_none hV;have hlt: ∀x∈p,x.block<W.heap.size:=fun x hx=>by simpa using hW'.lt x (by simp [hx])
 refine⟨ds,[],p++[],[],p,[],hW',?_,?_,?_,hb.frame _,fun h=>by cases h⟩
 ·rw[List.append_nil,hfn,hrt];exact trodAll_mk1 (shut_bool htb true)
 ·rw[List.append_nil,hfn];exact aN7 hl hb hr hA hlt
 ·rw[hv,List.append_nil,hfn];rfl
end
section
variable {H:Type}{enc:TypeId×Value->H}
theorem aN9 {C:Checked}{f:FuncId}{fn:Func}{s:ChangeSpec}{tb:TypeId}{ER:List (String×DataW Unit)}(own:ownKnob C.prog.godebug=none) {os:Os}(started:os.Started) (F:Stop.Interp)
  (noInit:C.prog.inits.idxOf? f=none) (hfn:C.prog.funcs[f]? =some fn)
  (hl:laidOutB C.prog=true) (hr: ∀t∈fn.params.toList,C.prog.readableRec t=true/\t<C.prog.types.size) (hv:s.vars=[])
  (hrt:fn.resultTypes= #[tb]) (htb:C.prog.underlying tb=some .bool)
  (hspec: ∀(ds:List (DataW H)) (W:World) (args:Array Value) ps,DataW.TrodAll enc C.prog W 0 (fun _=>true) true fn.params.toList args.toList ds ps->s.fn H ds={results:=[.lit (.bool true)],args:=ds})
  (witness: ∃(w:World) (tape:Tape) (i:Input),w.os=os/\(w.forCall tape i).Shaped C.prog/\i.vars=[]/\Input.okWide C.prog (w.forCall tape i) .any w.heap.size f i/\
   (OpenSpec.ofChange s).preRow enc C.prog fn [] false ER (w.forCall tape i).memory i.args/\Assume.holds {} C.prog (lone (Frame.enter C.prog f i.args .normal) [] (w.forCall tape i)))
  (contract: ∀(W:World) (base:Nat) (args:Array Value) (ds:List (DataW H)) (ps:List MemPlace),
   (∀(j:Nat) t v,fn.params[j]? =some t->args[j]? =some v->Value.okWide C.prog W .any base t v)->
   DataW.TrodAll enc C.prog W 0 (fun _=>true) true fn.params.toList args.toList ds ps->
   (∀x∈ps,x.block<W.heap.size)->(DataW.weightsEach C.prog fn.params.toList ds).all (·<=reachBytes)=true->laidMetH C.prog ER W->W.ShapedOpen C.prog->
   Calls C.prog f args W fun e W'=>e= .returned (.bool true)/\Below W.heap.size W W'):
  ReturnsInHanded {} C os f .any ((OpenSpec.ofChange s).preRow enc C.prog fn [] false ER) (s.post enc C.prog fn false true false false):=by
 refine returnsInHanded_of_row (C:=C) (s:=OpenSpec.ofChange s) (F:=F) own started noInit hfn witness ?_;intro W base args ds gs before hval hW _ _ hsz hL hsh _;have hW':=hW;obtain⟨p,q,hA,hV,rfl,hfz,hnd⟩:=hW;have hV':DataW.TrodVars enc C.prog W (fun _=>true) s.vars gs q:=hV;rw[hv] at hV';obtain⟨rfl,rfl⟩:=trodVars_none hV';have hlt: ∀x∈p,x.block<W.heap.size:=fun x hx=>by simpa using hW'.lt x (by simp [hx])
 have hvt:(OpenSpec.ofChange s).bare.plain.varTypes C.prog=[]:=by
  simp [OpenSpec.ofChange,ChangeSpec.plain,hv];rfl
 rw[hvt,List.append_nil,List.append_nil] at hsz;refine(contract W base args ds p hval hA hlt hsz hL hsh).mono fun e W' ⟨he,hb⟩=> ?_;subst he;exact⟨_,rfl,aN8 hl hr hW' hv (hspec ds W args p hA) hrt htb hb⟩
end
end Go.Proofs.YtbbpilohihldiaaGreatDoor
namespace Go.Proofs.YtbbpilohihldiaaGreatDoor
open Go.Shelf Go.Lib
open Vc
theorem aOa:(Rows.laid_unicode_utf8_first:DataW Unit)=Lib.firstData:=by kernel_rfl
theorem aOb:(Rows.laid_unicode_utf8_acceptRanges:DataW Unit)=Lib.acceptData:=by kernel_rfl
def aF9:List Int:=[0,1,56,2,57,49,28,3,61,58,42,50,38,29,17,4,62,47,59,36,45,43,51,22,53,39,33,30,24,18,12,5,63,55,48,27,60,41,37,16,46,35,44,21,52,32,23,11,54,26,40,15,34,20,31,10,25,14,19,9,13,8,7,6]
theorem aOc:(Rows.laid_math_bits_deBruijn64tab:DataW Unit)=Lib.tabData .u8 aF9:=by kernel_rfl
theorem aOd {P:Program}{w:World}{g:Nat}{t:TypeId}{k:IntKind}{zero:Array Value}(h:w.ShapedOpen P) (hg:g<P.globals.size)
  (h0:((begin P (fun _ _=>0) default).world.heap[g]?).bind Obj.row? =some (zero,t)) (hz:zero.size=1)
  (hb:P.buildable t=true) (hc:P.cellTypes P.depth t=some [t]) (hu:P.underlying t=some (.int k)): ∃m,w.cell? ⟨g,0,none⟩=some (.int k m):=by
 obtain⟨cs,hh,hs,hr⟩:=h.1 g zero t hg h0;obtain⟨ts,hts,_,hall⟩:=hr hb;rw[hc] at hts;cases hts;have h1:0<cs.size:=by omega
 obtain⟨u,hu',hok⟩:=hall 0 cs[0] (by simp [h1]);have:u=t:=by simpa using hu'.symm
 subst this;have hcell:w.cell? ⟨g,0,none⟩=some cs[0]:=by simp [World.cell?,hh,h1]
 rw[hcell];unfold Cell.ok at hok;rw[hu] at hok;cases hv:cs[0]<;>rw[hv] at hok<;>simp at hok
 rename_i k' m;exact⟨m,by rw[hok.1]⟩
theorem aOe {W:World}(hsh:W.ShapedOpen Tryz.prog): ∃m,W.cell? ⟨0,0,none⟩=some (.int .i64 m):=
 aOd (t:=3) (zero:= #[.int .i64 0]) hsh (aRa (by kernel_rfl)) (by kernel_rfl) rfl (by kernel_rfl) (by kernel_rfl) Tryz.underlying3
def aOf:Ren:=⟨fun x=>x,fun x=>if x=5 then 5 else if x=119 then 254 else if x=138 then 256 else 257,fun x=>if x=3 then 1 else 2⟩
theorem aOg {w:World}{a:Addr}{v:Value}(h:w.cell? a=some v):a.block<w.heap.size:=by
 unfold World.cell? at h;split at h
 ·rename_i hb;exact(aQJ.1 hb).1
 ·cases h
theorem aOh {W:World}(hL:laidMet Tryz.prog Rows.treePrintRow.laid W) (hsh:W.ShapedOpen Tryz.prog):HZ W:=by
 obtain⟨m,hm⟩:=aOe hsh;have h0:=laidMet.reads hL (.tail _ (.head _));have h1:=laidMet.reads hL (.tail _ (.tail _ (.tail _ (.head _))));have h2:=laidMet.reads hL (.tail _ (.tail _ (.tail _ (.tail _ (.head _)))));rw[aOc] at h0;rw[aOa] at h2;rw[aOb] at h1;have hU:Lib.Utf8Tabs 1 2 W:=utf8Tabs_of_readsT (ρ:=aOf) ⟨by kernel_rfl,by kernel_rfl,by kernel_rfl,by kernel_rfl⟩ ⟨by kernel_rfl,by kernel_rfl,by kernel_rfl,by kernel_rfl,by kernel_rfl,by kernel_rfl,by kernel_rfl⟩ h2 h1;have hT:W.cell? ⟨5,15,none⟩=some (.int .u8 4):=by
  obtain⟨g,t,cs,fuel,p,hg,ht,hv,hd⟩:=h0;have hg0:Tryz.prog.globalNamed "math/bits.deBruijn64tab" =some 5:=by kernel_rfl
  have ht0:(Tryz.prog.globals[5]?).map (·.type)=some 289:=by kernel_rfl
  obtain rfl:=aQo (hg0.symm.trans hg);obtain rfl:=aQo (ht0.symm.trans ht);have hc:=cells_of_tab Tryz.underlying289 Tryz.underlying5 (by kernel_rfl) (by kernel_rfl) hd;rw[World.var?_cell hg hv 15,<-aRo,hc];rfl
 refine⟨?_,hU,⟨m,hm⟩,fun x hx=> ?_⟩
 ·have b0:5<W.heap.size:=aOg hT;show 6<=W.heap.size;omega
 ·unfold a62 at hx;obtain rfl:=aQx.1 hx;exact⟨by decide,hT⟩
noncomputable def VZ (os:Os):World:=
 let w0:=World.holding Tryz.prog os ⟨#[],#[],[]⟩
 let sK (h:Array Obj) (g:Nat) (cs:Array Value):Array Obj:=h.modify g fun
  | .cells _ t frozen=> .cells cs t frozen
  |o=>o
 let h1:=sK w0.heap 1 (Lib.firstTab.map fun z=>Value.int .u8 z).toArray
 let h2:=sK h1 2 ((List.range 16).flatMap fun i=>[Value.int .u8 (Lib.accLo i),Value.int .u8 (Lib.accHi i)]).toArray
 let h3:=sK h2 5 (aF9.map fun z=>Value.int .u8 z).toArray
 let h4:=sK h3 4 (([0,1,28,2,29,14,24,3,30,22,20,15,25,17,4,8,31,27,13,23,21,19,16,7,26,12,18,6,11,5,10,9]:List Int).map fun z=>Value.int .u8 z).toArray
 let h5:=sK h4 3 ((List.range 20).map fun i=>Value.int .u64 (10^i)).toArray
 {w0 with heap:=h5}
theorem aOi (os:Os) (args:Array Value):laidMet Tryz.prog Rows.treePrintRow.laid ((VZ os).forCall (fun _ _=>0) ⟨#[],args,[]⟩).memory:=
 (LaidIn.of_run [4,5,3,2,1] 8 (by kernel_rfl) (by kernel_rfl) (by kernel_rfl) (by kernel_rfl):LaidIn Tryz.prog _ Rows.treePrintRow.laid _).met
end Go.Proofs.YtbbpilohihldiaaGreatDoor
namespace Go.Proofs.YtbbpilohihldiaaGreatDoor
open Vc Go.RowKit
inductive a60 where
 |ty (t:TypeId) |fs (o:Nat) (l:List Field)
inductive BD (P:Program):a60->Ty->Prop
 |bool {t}:P.underlying t=some .bool->BD P (.ty t) .bool
 |int {t k}:P.underlying t=some (.int k)->BD P (.ty t) (.int k)
 |str {t}:P.underlying t=some .string->BD P (.ty t) .str
 |list {t e u}:P.underlying t=some (.slice e)->P.cellsOf e=u.cells->0<u.cells->0<P.bytesOf e->BD P (.ty e) u->BD P (.ty t) (.list u)
 |struct {t fs ty}:ty.isRow=true->P.underlying t=some (.struct fs)->P.cellsOf t=ty.cells->BD P (.fs 0 fs.toList) ty->BD P (.ty t) ty
 |nil {o}:BD P (.fs o []) .unit
 |cons {o}{f:Field}{r a b}:f.offset=o->P.cellsOf f.type=a.cells->BD P (.ty f.type) a->BD P (.fs (o+a.cells) r) b->BD P (.fs o (f::r)) (.pair a b)
def Bd:(t:Ty)->t.den->Prop
 | .str,s=>List.length s<=140737488351232
 | .int k,n=>(Lit.int k n).wf=true
 | .list u,l=>List.length l<=140737488351232/\∀x:u.den,x∈(l:List u.den)->Bd u x
 | .pair a b,x=>Bd a x.1/\Bd b x.2
 |_,_=>True
def HY (w:World):Gh:=⟨fun b _=>b<w.heap.size,fun _=>none,fun _ _=>none⟩
theorem aGa {α:Type}{R:α->List Value->Prop}{w:World}{S:Nat->Nat->Prop}{c b:Nat}: ∀{l:List α}{o:Nat},(∀i x,l[i]? =some x->∃cs,cs.length=c/\w.rangeAt b (o+i*c) cs/\(∀j,j<c->S b (o+i*c+j))/\R x cs)->xC R w S c b o l
 |[],_,_=>trivial
 |x::l,o,h=>by
  refine⟨?_,aGa fun i y hy=> ?_⟩
  ·obtain⟨cs,h1,h2,h3,h4⟩:=h 0 x rfl;exact⟨cs,h1,by simpa using h2,by simpa using h3,h4⟩
  ·obtain⟨cs,h1,h2,h3,h4⟩:=h (i+1) y (by simpa using hy);have e:o+(i+1)*c=o+c+i*c:=by rw[aRn];omega
   exact⟨cs,h1,by rw[<-e];exact h2,by rw[<-e];exact h3,h4⟩
section
variable {H:Type}{enc:TypeId×Value->H}{P:Program}{W:World}
theorem aGb {e:TypeId}: ∀{l:List (DataW H)}{i:Nat}{d:DataW H},l[i]? =some d->∀n∈d.weights P e,n∈DataW.weightsAll P e l
 |d0::l,0,d,h,n,hn=>by
  simp only[aQR,aQk] at h;subst h;simp only[DataW.weightsAll,aRe];exact .inl hn
 |d0::l,i+1,d,h,n,hn=>by
  simp only[aQ5] at h;simp only[DataW.weightsAll,aRe];exact .inr (aGb h n hn)
 |[],_,_,h,_,_=>by simp at h
def aOj (enc:TypeId×Value->H) (P:Program) (W:World):a60->Ty->Prop
 | .ty t,u=> ∀(fuel:Nat) (cs:List Value) (y:DataW H×List MemPlace),DataW.trod enc P W 0 (fun _=>true) true fuel t cs=some y->(∀n∈y.1.weights P t,n<=reachBytes)->∃x:u.den,Rd (HY W) W u x cs/\Bd u x
 | .fs o l,u=> ∀(fuel:Nat) (cs:List Value) (xs:List (DataW H×List MemPlace)),cs.length=o+u.cells->xs.length=l.length->(∀(i:Nat) (f:Field),l[i]? =some f->DataW.trod enc P W 0 (fun _=>true) true fuel f.type ((cs.drop f.offset).take (P.cellsOf f.type))=xs[i]?)->(∀n∈DataW.weightsEach P (l.map (·.type)) (xs.map (·.1)),n<=reachBytes)->∃x:u.den,Rd (HY W) W u x (cs.drop o)/\Bd u x
theorem aOk {e:TypeId}{u:Ty}{a:Addr}{len cap:Nat}(hc:P.cellsOf e=u.cells) (hpos:0<u.cells) (hcap:len<=cap)
  (each: ∀i,i<len->∃(cs:List Value) (x:u.den),W.cells? 0 (a.add (i*u.cells)) u.cells=some cs/\Rd (HY W) W u x cs/\Bd u x):
  ∃l:List u.den,l.length=len/\Rd (HY W) W (.list u) l [.slice (some a) len cap]/\∀x∈l,Bd u x:=by
 have build: ∀k,k<=len->∃l:List u.den,l.length=k/\∀i x,l[i]? =some x->∃cs:List Value,W.cells? 0 (a.add (i*u.cells)) u.cells=some cs/\Rd (HY W) W u x cs/\Bd u x:=by
  intro k
  induction k with
  |zero=>intro _;exact⟨[],rfl,fun i x h=>by simp at h⟩
  |succ k ih=>
   intro hk;obtain⟨l,h1,h2⟩:=ih (by omega);obtain⟨cs,x,h3,h4⟩:=each k (by omega);refine⟨l++[x],by simp [h1],fun i y hy=> ?_⟩;rw[List.getElem?_append] at hy;split at hy
   ·exact h2 i y hy
   ·rename_i hi;obtain⟨j,hj⟩: ∃j,i=l.length+j:=⟨i-l.length,by omega⟩;subst hj;rw[aQ4] at hy;cases j with
    |zero=>
     simp only[aQR,aQk] at hy;subst hy;exact⟨cs,by rw[aRW,h1];exact h3,h4⟩
    |succ j=>simp at hy
 obtain⟨l,hll,hle⟩:=build len (aQF _);refine⟨l,hll,?_,fun x hx=> ?_⟩
 ·subst hll;by_cases hl0:l=[]
  ·subst hl0;exact⟨some a,cap,rfl,hcap,.inl rfl⟩
  ·obtain⟨b,off,spot⟩:=a;have hlp:0<l.length:=aRH.2 hl0;have hspot:spot=none:=by
    obtain⟨cs,x,h3,_⟩:=each 0 hlp;have h4:=(World.cells?_some h3).2.2 0 hpos;have hlen0:=(World.cells?_some h3).2.1;rw[aQs (by omega)] at h4;simpa[Addr.add] using World.cell?_spot h4
   subst hspot;refine⟨_,cap,rfl,hcap,.inr ⟨b,off,rfl,aGa fun i x hx=> ?_⟩⟩;obtain⟨cs,h3,h4,_⟩:=hle i x hx;obtain⟨_,h5,h6⟩:=World.cells?_some h3;have hcell: ∀j v,cs[j]? =some v->W.cell? ⟨b,off+i*u.cells+j,none⟩=some v:=by
    intro j v hv;have hj:j<u.cells:=by have:=(aQA.1 hv).1;omega
    have:=h6 j hj;rw[hv] at this;rw[aSb,aSb] at this;exact this
   refine⟨cs,h5,hcell,fun j hj=> ?_,h4⟩;exact Vc.RX (hcell 0 _ (aQs (by omega)))
 ·obtain⟨i,hi,he⟩:=aR2 hx;obtain⟨cs,h3,h4,h5⟩:=hle i x (by rw[aQs hi,he]);exact h5
theorem aOl {ix:a60}{u:Ty}(h:BD P ix u):aOj enc P W ix u:=by
 induction h with
 |bool ht=>
  intro fuel cs y hy _;obtain⟨b,rfl,_⟩:=DataW.trod_bool ht hy;exact⟨b,rfl,trivial⟩
 |int ht=>
  intro fuel cs y hy _;obtain⟨n,rfl,_,hw⟩:=DataW.trod_int ht hy;exact⟨n,rfl,hw⟩
 |str ht=>
  intro fuel cs y hy hw;obtain⟨s,rfl,rfl,_⟩:=DataW.trod_string ht hy;refine⟨s.data.toList,by show [Value.string s]=[Value.string ⟨s.data.toList.toArray⟩];rw[aRS],?_⟩;exact hw _ (by simp [DataW.weights])
 | @list t e u ht hc hpos hb _ ih=>
  intro fuel cs y hy hw;rcases DataW.trod_slice ht hy with⟨rfl,_⟩ |⟨a,len,cap,elems,rest,n,_,rfl,rfl,_,hl,_,hlen,hall,_,_⟩
  ·exact⟨[],⟨none,0,rfl,aQF _,.inl rfl⟩,by simp,fun x hx=>by cases hx⟩
  ·have hws:DataW.weights P t (.slice (elems.map (·.1)) (rest.map (·.1)))=((elems.map (·.1)).length+(rest.map (·.1)).length)*P.bytesOf e::(DataW.weightsAll P e (elems.map (·.1))++DataW.weightsAll P e (rest.map (·.1))):=by
    simp [DataW.weights,ht]
   rw[hws] at hw;have hn:=hw _ aQH;obtain⟨l,h1,h2,h3⟩:=aOk (W:=W) (a:=a) (cap:=cap) hc hpos hl fun i hi=>by
    have h1:=hall i hi;rw[hc,aQs (by omega),Option.bind_eq_some_iff] at h1;obtain⟨cs,h2,h3⟩:=h1;obtain⟨x,hx⟩:=ih n cs _ h3 fun m hm=>hw m (by
     refine aQy _ (aRe.2 (.inl (aGb (i:=i) ?_ m hm)));rw[List.getElem?_map,aQs (by omega)];rfl)
    exact⟨cs,x,h2,hx⟩
   refine⟨l,h2,?_,h3⟩;have:elems.length<=(elems.length+rest.length)*P.bytesOf e:=by
    calc elems.length<=(elems.length+rest.length)*1:=by omega
     _<=_:=Nat.mul_le_mul_left _ hb
   simp only[aRq] at hn;have hr:reachBytes=140737488351232:=rfl;show l.length<=_;omega
 |struct hrow ht hcl _ ih=>
  intro fuel cs y hy hw;obtain⟨xs,n,rfl,rfl,hl,hlen,hf⟩:=DataW.trod_struct ht hy;have:=ih n cs xs (by rw[hl,hcl];omega) (by rw[hlen];simp) (fun i f hi=>hf i f (by simpa using hi)) fun m hm=>hw m (by simpa[DataW.weights,ht] using hm);rwa [aRA] at this
 |nil=>
  intro fuel cs xs hl _ _ _;refine⟨(),?_,trivial⟩;show cs.drop _=[];exact List.drop_of_length_le (by simp [Ty.cells] at hl;omega)
 | @cons o f r a b ho hc _ _ iha ihb=>
  intro fuel cs xs hl hx hf hw;cases xs with
  |nil=>simp at hx
  |cons x0 xs=>
   have h0:=hf 0 f rfl;rw[hc,ho] at h0;obtain⟨xa,ra,ba⟩:=iha fuel _ x0 h0 fun m hm=>hw m (by simp only[aRt,DataW.weightsEach,aRe];exact .inl hm);obtain⟨xb,rb,bb⟩:=ihb fuel cs xs (by simp only[Ty.cells] at hl;omega) (by simpa using hx) (fun i f' hi=>by have:=hf (i+1) f' (by simpa using hi);simpa using this) fun m hm=>hw m (by simp only[aRt,DataW.weightsEach,aRe];exact .inr hm);refine⟨(xa,xb),⟨_,_,(aRy a.cells (cs.drop o)).symm,ra,?_⟩,ba,bb⟩;rw[aQ9];exact rb
theorem aOm {t:TypeId}{u:Ty}{base:Nat}{v:Value}{d:DataW H}{ps:List MemPlace}(h:BD P (.ty t) u) (hok:Value.okWide P W .any base t v) (hT:DataW.Trod enc P W 0 (fun _=>true) true t v d ps) (hw: ∀n∈d.weights P t,n<=reachBytes): ∃x:u.den,s9 (HY W) W u x v/\Bd u x:=by
 obtain⟨fuel,hf⟩:=hT;obtain⟨x,hx,hb⟩:=aOl (enc:=enc) (W:=W) h fuel _ _ hf hw;refine⟨x,?_,hb⟩;cases h with
 |bool ht=>obtain⟨b,rfl⟩:=Go.WideShapes.okWide_bool ht hok;exact .inr ⟨rfl,hx⟩
 |int ht=>obtain⟨b,rfl⟩:=Go.WideShapes.okWide_int ht hok;exact .inr ⟨rfl,hx⟩
 |str ht=>obtain⟨b,rfl⟩:=Go.WideShapes.okWide_string ht hok;exact .inr ⟨rfl,hx⟩
 |list ht=>obtain⟨a,l,c,rfl⟩:=Go.WideShapes.okWide_slice ht hok;exact .inr ⟨rfl,hx⟩
 |struct hrow ht=>obtain⟨cs,rfl,_⟩:=Go.WideShapes.okWide_struct ht hok;exact .inl ⟨hrow,cs.toList,by rw[aRS],hx⟩
end
end Go.Proofs.YtbbpilohihldiaaGreatDoor
namespace Go.Proofs.YtbbpilohihldiaaGreatDoor
open Vc
open Go.ChangeShapes Go.WideShapes Go.ChangeAt Go.RowKit
theorem aOn:BD Tryz.prog (.ty 9) .str:= .str Tryz.underlying9
theorem aOo {W:World}(hT:HZ W) (u:Value) (s:List UInt8) (hu:s9 (HY W) W .str s u):
  Calls Tryz.prog 10 #[u] W fun e W'=>e= .returned (.bool true)/\Below W.heap.size W W':=by
 have hC:a6d (PQ s) UM=some (M3 s):=aKI _;have ht:=aN6 s;refine(aKK.1.2 (HY W) W (PQ s) [u] [] _ ⟨(fun i b h=>by cases h),(fun i j bi bj b o _ h=>by cases h),fun b o h=>h,hT,(fun i blk b o h=>by cases h)⟩ ⟨u,[],rfl,⟨hu,trivial⟩,rfl⟩ hC ?_).mono fun e W' ⟨v,g',he,r⟩=> ?_
 ·intro p hp;have:p=((JJ s).isSome=true):=by simpa[M3] using hp
  rw[this,ht];rfl
 ·have hv:v= .bool true:=by
   have h1:=r.ret;unfold M3 at h1;rw[ht] at h1;exact vU h1.1
  subst hv;exact⟨he,⟨r.fr.os,r.fr.tape,r.fr.output,r.fr.size,fun k hk=>r.fr.blk k hk (fun o ⟨i,blk,hi,_⟩=>by cases hi)⟩⟩
end Go.Proofs.YtbbpilohihldiaaGreatDoor
namespace Go.Proofs.YtbbpilohihldiaaGreatDoor
open Go.ChangeShapes Go.WideShapes Go.ChangeAt Go.RowKit Go.Lib
theorem aOp:(Rows.treeWholeRow.inPlace==Tryz.prog.inPlace 10)=true:=by kernel_rfl
theorem aOq:(Rows.treeWholeRow.unfollowed==Tryz.prog.unfollowed 10)=true:=by kernel_rfl
theorem aOr:(Rows.treeWholeRow.recurses==Tryz.prog.recurses 10)=true:=by kernel_rfl
theorem aOs:(Rows.treeWholeRow.named==Tryz.prog.varsNamed 10)=true:=by kernel_rfl
theorem aOt:joinedFacts Tryz.prog 10 Tryz.f10 Rows.treeWholeSpec Rows.treeWholeRow=true:=by
 unfold joinedFacts;rw[aOp,aOq,aOr,aOs]
 kernel_rfl
namespace treeWholeLaw
theorem own:ownKnob Tryz.prog.godebug=none:=by kernel_rfl
theorem ER:laidOutB Tryz.prog=true:=by kernel_rfl
theorem aOu:Tryz.prog.readableRec 9=true:=by kernel_rfl
theorem ltS:9<Tryz.prog.types.size:=aRa (by kernel_rfl)
theorem aOw (os:Os) {H:Type}(enc:TypeId×Value->H):
  (OpenSpec.ofChange Rows.treeWholeSpec).preRow enc Tryz.prog Tryz.f10 [] false Rows.treeWholeRow.laid ((VZ os).forCall (fun _ _=>0) ⟨#[],#[.string ⟨#[]⟩],[]⟩).memory #[.string ⟨#[]⟩]:=by
 have hw:(DataW.whole enc Tryz.prog ((VZ os).forCall (fun _ _=>0) ⟨#[],#[.string ⟨#[]⟩],[]⟩).memory Tryz.f10.params.toList (OpenSpec.ofChange Rows.treeWholeSpec).vars false #[.string ⟨#[]⟩].toList 8).map (fun x=>(x.1,x.2.1))=
   some ([.lit (.string [])],[]):=by kernel_rfl
 obtain⟨⟨x1,x2,x3⟩,hx,hx1⟩:=aQz.1 hw;simp only[aQQ] at hx1;obtain⟨rfl,rfl⟩:=hx1;exact OpenSpec.preRow_of_cond 8 hx (by kernel_rfl) (fun k hk=>by cases hk) (by kernel_rfl) (aOi os _)
theorem lifted (os:Os) (started:os.Started) (H:Type) (enc:TypeId×Value->H) (F:Stop.Interp):
  ReturnsInHanded {} Tryz.checked os 10 .any ((OpenSpec.ofChange Rows.treeWholeSpec).preRow enc Tryz.prog Tryz.f10 [] false Rows.treeWholeRow.laid) (Rows.treeWholeSpec.post enc Tryz.prog Tryz.f10 false true false false):=by
 refine aN9 (C:=Tryz.checked) (tb:=4) own started F (by kernel_rfl) Tryz.func10 ER ?_ rfl rfl Tryz.underlying4 ?_
  (witness_row_atRef (enc:=enc) (C:=Tryz.checked) false (VZ os) #[.string ⟨#[]⟩] rfl (by kernel_rfl) (by kernel_rfl) (by kernel_rfl) (aOw os enc)) ?_
 ·intro t ht;rw[Tryz.params10] at ht;simp only[aQC,aSh,or_false] at ht;rcases ht with rfl
  exact⟨aOu,ltS⟩
 ·intro ds W args ps h;have h':DataW.TrodAll enc Tryz.prog W 0 (fun _=>true) true Tryz.f10.params.toList args.toList ds ps:=h;rw[Tryz.params10] at h';obtain⟨v0,d0,rfl,rfl,h0⟩:=trodAll_one h';rfl
 ·intro W base args ds ps hval0 hA0 hlt hsz0 hL hsh;have hval: ∀(j:Nat) t v,Tryz.f10.params[j]? =some t->args[j]? =some v->Value.okWide Tryz.prog W .any base t v:=hval0;have hA:DataW.TrodAll enc Tryz.prog W 0 (fun _=>true) true Tryz.f10.params.toList args.toList ds ps:=hA0;have hsz:(DataW.weightsEach Tryz.prog Tryz.f10.params.toList ds).all (·<=reachBytes)=true:=hsz0;rw[Tryz.params10] at hA hval hsz;obtain⟨v0,d0,rfl,rfl,h0⟩:=trodAll_one hA;obtain⟨s,hu,_⟩:=aOm aOn (hval 0 9 v0 rfl rfl) h0 (fun n hn=>by
   have:=aRh.1 hsz n (DataW.weights_mem_each (j:=0) rfl rfl n hn);simpa using this)
  exact aOo (aOh hL hsh) v0 s hu
end treeWholeLaw
theorem aGc:Rows.TreeWholeSaid:=
 OpenClaim.holds_of_wide 10 Tryz.f10 rfl rfl rfl rfl rfl rfl rfl ⟨rfl,rfl,rfl,rfl,rfl⟩ rfl rfl rfl rfl rfl (by kernel_rfl) Tryz.func10 aOt
  (aRa (by kernel_rfl)) (by unfold Func.isWrapper;first|(rw[aQj (by decide+kernel)];kernel_rfl) |(rw[aQl (by decide+kernel)];exact⟨rfl,rfl⟩))
  (fun os started H enc _=>by rw[OpenClaim.pre_eq_preRow];exact treeWholeLaw.lifted os started H enc (fun _ _ _=>0))
#print axioms aGc
end Go.Proofs.YtbbpilohihldiaaGreatDoor
namespace Go.Proofs.YtbbpilohihldiaaGreatDoor
open Go
theorem aOx:Rows.treeWholeRow.wfByText (OpenSpec.ofChange Rows.treeWholeSpec)=true:=by kernel_rfl
theorem aOy:Tryz.prog.mainIs=some (true, "a32bce6e8aa7af12dc4e9cc10fcfd390a8b62eedc0063c9f8df073b3dc5897a3".toList):=by kernel_rfl
theorem aOz:false=Tryz.prog.looks []:=by kernel_rfl
theorem aOA:false=Rows.treeWholeRow.goesBy Tryz.prog:=by kernel_rfl
theorem aOB:Tryz.prog.funcNamed "calque/calquelaw40.TreeWhole" =some 10:=by kernel_rfl
theorem aOC:([9].all fun u=> !Tryz.prog.wantsStandIn u)=true:=by kernel_rfl
theorem treeWholeCard_holds:Rows.TreeWholeCardSaid:=
 Claim7.holds_tied_plain_at .later [] [.data,.data,.data,.data,.pinned] true (true, "a32bce6e8aa7af12dc4e9cc10fcfd390a8b62eedc0063c9f8df073b3dc5897a3") false
  aGc (fun _ h=>by cases h) aOx (fun _ h=>by cases h) treeWhole_row_tie rfl ⟨rfl,rfl⟩ aOy rfl
  (fun f fn hf hfn=>by
   obtain rfl:f=10:=aQo (aOB.symm.trans hf) |>.symm
   obtain rfl:fn=Tryz.f10:=(aQo (Tryz.func10.symm.trans hfn)).symm;exact⟨aOz,fun j t ht=>by
    rw[Tryz.params10] at ht;have hm:t∈[9]:=by simpa using Array.mem_of_getElem? ht
    exact(show Tryz.prog.wantsStandIn t=false by simpa using aRh.1 aOC t hm)⟩)
  aOA
#print axioms treeWholeCard_holds
end Go.Proofs.YtbbpilohihldiaaGreatDoor
