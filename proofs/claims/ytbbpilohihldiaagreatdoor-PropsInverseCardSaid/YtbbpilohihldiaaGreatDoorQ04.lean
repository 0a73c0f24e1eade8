/- PropsInverse returns true for every catalog and body (a printed catalog reads back, what is read prints and reads back): the tied card of the statement, over the row's statement. No condition. -/
/- Packed by a program of mine (wip/tools/pack.py): the same texts with short names and few blanks. -/
import Derived.Deep.CondSized
import Derived.Deep.DeepHandedRow
import Derived.Deep.DeepWitnessRowRef
import Derived.KernelRfl
import Derived.Lib.LaidIn
import Derived.Lib.LaidTab
import Derived.Lib.LaidU8T
import Derived.OpenShut
import Derived.ProofKit
import Derived.SevenTiedAt
import Derived.SizedLaws
import Derived.Sort.Walk0
import Derived.Test.YtbbpilohihldiaaGreatDoorCards
import Derived.Test.YtbbpilohihldiaaGreatDoorRows
import Derived.Test.YtbbpilohihldiaaGreatDoorTie
import Derived.WalkKit
import Derived.Test.YtbbpilohihldiaaGreatDoorQ03
set_option linter.unusedVariables false
set_option linter.unusedSimpArgs false
set_option linter.unusedSectionVars false
set_option maxRecDepth 100000
set_option maxHeartbeats 4000000
namespace Go.Proofs.YtbbpilohihldiaaGreatDoor
open Vc
def uS (x:UInt8) (s:List UInt8):List UInt8:=if s.getLast? =some x then s.dropLast else s
def A3 (x:UInt8) (s:List UInt8):List UInt8:=if s.head? =some x then s.drop 1 else s
theorem a6c (x:UInt8) (s:List UInt8):(uS x s).length<=s.length:=by
 unfold uS;split
 ·rw[List.length_dropLast];omega
 ·exact Nat.le_refl _
theorem aLh (x:UInt8) (s:List UInt8):(A3 x s).length<=s.length:=by
 unfold A3;split
 ·rw[aP5];omega
 ·exact Nat.le_refl _
theorem CF (s:List UInt8) (x:UInt8):((decide ((([x]:List UInt8).length:Int)<=(s.length:Int)))&&(decide ((pR s (0:Int) (([x]:List UInt8).length:Int))=([x]:List UInt8))))=decide (s.head? =some x):=by
 cases s with
 |nil=>simp
 |cons b t=>
  rw[show pR (b::t) (0:Int) (([x]:List UInt8).length:Int)=[b] from rfl];rw[show decide ((([x]:List UInt8).length:Int)<=((b::t).length:Int))=true by simp<;>omega,Bool.true_and]
  simp
theorem aLi (s:List UInt8) (x:UInt8):((decide ((([x]:List UInt8).length:Int)<=(s.length:Int)))&&(decide ((pR s ((s.length:Int)- (([x]:List UInt8).length:Int)) (s.length:Int))=([x]:List UInt8))))=decide (s.getLast? =some x):=by
 rcases List.eq_nil_or_concat s with rfl|⟨t,b,rfl⟩
 ·simp
 ·rw[List.concat_eq_append];have hl:(t++[b]).length=t.length+1:=by simp
  have hc:pR (t++[b]) (((t++[b]).length:Int)- (([x]:List UInt8).length:Int)) ((t++[b]).length:Int)=[b]:=by
   unfold pR;rw[hl,show (((t.length+1:Nat):Int)- (([x]:List UInt8).length:Int)).toNat=t.length by simp,show ((t.length+1:Nat):Int).toNat-t.length=1 by omega,aRA];rfl
  rw[hc,show decide ((([x]:List UInt8).length:Int)<=((t++[b]).length:Int))=true by simp<;>omega,Bool.true_and]
  simp
theorem aEc (s:List UInt8) (x:UInt8) (n:Int) (hn:(x.toNat:Int)=n):((decide ((0:Int)<(s.length:Int)))&&(decide ((pZ s ((s.length:Int)- (1:Int)))=n)))=decide (s.getLast? =some x):=by
 subst hn;rcases List.eq_nil_or_concat s with rfl|⟨t,b,rfl⟩
 ·simp
 ·rw[List.concat_eq_append];have hl:(t++[b]).length=t.length+1:=by simp
  have hb:pZ (t++[b]) (((t++[b]).length:Int)-1)=(b.toNat:Int):=by
   rw[hl,show ((t.length+1:Nat):Int)-1=(t.length:Int) by omega,yN (by omega)];simp
  rw[hb,show decide ((0:Int)<((t++[b]).length:Int))=true by simp<;>omega,Bool.true_and]
  rw[aQX,aPQ,aPQ,CE];simp
theorem a6d {s:List UInt8}{x:UInt8}(h:s.getLast? =some x):1<=s.length:=by
 cases s with
 |nil=>simp at h
 |cons b t=>simp
theorem a6e {s:List UInt8}{x:UInt8}(h:s.head? =some x):1<=s.length:=by
 cases s with
 |nil=>simp at h
 |cons b t=>simp
theorem a6f {s:List UInt8}(h:1<=s.length):pR s 0 ((s.length:Int)-1)=s.dropLast:=by
 rw[show ((s.length:Int)-1)=((s.length-1:Nat):Int) by omega,LR,List.dropLast_eq_take]
theorem a6g {s:List UInt8}(hs:pK s) (x:UInt8):BD s [x]=some (uS x s):=by
 unfold pK at hs;have h1:((([x]:List UInt8).length:Nat):Int)=1:=rfl;unfold BD L9 O9;rw[aLi,h1,if_pos (fun _=>by unfold pA;omega),if_pos (fun hh=>by simp only[aRs,aPQ] at hh;omega),aPM];unfold uS;by_cases h:s.getLast? =some x
 ·have:=a6d h;rw[if_pos (by simpa using h),if_pos h,if_pos (by unfold pA;omega),if_pos (by omega),a6f this];rfl
 ·rw[if_neg (by simpa using h),if_neg h];rfl
theorem aEd (s:List UInt8) (x:UInt8):EL s [x]=some ():=by
 have h1:((([x]:List UInt8).length:Nat):Int)=1:=rfl;unfold EL;rw[h1,if_pos (fun hh=>by simp only[aRs,aPQ] at hh;omega)]
theorem a6h {s:List UInt8}:pR s 1 (s.length:Int)=s.drop 1:=A1 (k:=1)
theorem aLj (s:List UInt8) (x:UInt8):IQ s [x]=some (A3 x s):=by
 have h1:((([x]:List UInt8).length:Nat):Int)=1:=rfl;unfold IQ L2;rw[CF,aEd,aPM];unfold A3;by_cases h:s.head? =some x
 ·have:=a6e h;rw[if_pos (by simpa using h),if_pos h,h1,if_pos (by omega),a6h];rfl
 ·rw[if_neg (by simpa using h),if_neg h];rfl
theorem aLk (s:List UInt8) (x:UInt8):D8 s [x]=some (A3 x s,decide (s.head? =some x)):=by
 have h1:((([x]:List UInt8).length:Nat):Int)=1:=rfl;unfold D8 IH;rw[CF,aEd,aPM];unfold A3;by_cases h:s.head? =some x
 ·have:=a6e h;rw[if_neg (by simpa using h),if_pos h,h1,if_pos (by omega),a6h,aQD h];rfl
 ·rw[if_pos (by simpa using h),if_neg h,decide_eq_false h];rfl
theorem F6 (s:List UInt8) (x:UInt8):D3 s [x]=some ():=by
 have h1:((([x]:List UInt8).length:Nat):Int)=1:=rfl;unfold D3;rw[h1,if_pos (fun hh=>by simp only[aRs,aPQ] at hh;omega)]
theorem M3 (s:List UInt8) (x y:UInt8):D3 s [x,y]=some ():=by
 have h1:((([x,y]:List UInt8).length:Nat):Int)=2:=rfl;unfold D3;rw[h1,if_pos (fun hh=>by simp only[aRs,aPQ] at hh;omega)]
def F7 (b:UInt8):Bool:=[32,9].contains b
theorem a6i {p:UInt8->Bool}: ∀(l:List UInt8),l.drop (l.takeWhile p).length=l.dropWhile p
 |[]=>rfl
 |b::t=>by
  rw[List.takeWhile_cons,List.dropWhile_cons];cases h:p b with
  |true=>simp only[aRr,aPR,aRx];exact a6i t
  |false=>rfl
theorem aLl (b:UInt8):(decide ((b.toNat:Int)=(32:Int))||decide ((b.toNat:Int)=(9:Int)))=F7 b:=by
 have h1:decide ((b.toNat:Int)=(32:Int))=decide (b=32):=by
  rw[aQX,aPQ,aPQ];exact CE (a:=b) (b:=32)
 have h2:decide ((b.toNat:Int)=(9:Int))=decide (b=9):=by
  rw[aQX,aPQ,aPQ];exact CE (a:=b) (b:=9)
 rw[h1,h2];unfold F7;rw[aQX];simp
theorem aEe {l:List UInt8}(hl:pK l): ∀(n j:Nat),j+n=l.length->pY (O5 l) (j:Int)=some ((j+((l.drop j).takeWhile F7).length:Nat):Int)
 |0,j,hj=>by
  have:j=l.length:=by omega
  subst this;rw[aQz];refine tZ ?_;unfold O5;rw[if_pos (fun hh=>by simp at hh),if_pos (fun hh=>by simp at hh),if_neg (by simp)];rfl
 |n+1,j,hj=>by
  have hlt:j<l.length:=by omega
  unfold pK at hl;have hst:O5 l (j:Int)=if F7 l[j]=true then some (.inl ((j+1:Nat):Int)) else some (.inr (j:Int)):=by
   unfold O5;rw[if_pos (fun _=>rO hlt),if_pos (fun _=>rO hlt),yN hlt,aLl,sQ hlt,Bool.true_and,if_pos (sJ (by omega))];rfl
  rw[aQa hlt,List.takeWhile_cons];cases hb:F7 l[j] with
  |true=>
   rw[zT (hst.trans (if_pos hb)),aEe hl n (j+1) (by omega)];simp only[aRr,aPR];congr 1;omega
  |false=>
   rw[tZ (hst.trans (if_neg (by rw[hb];exact aQr)))];rfl
def CG (line:List UInt8):List UInt8:=(uS 10 line).dropWhile F7
theorem aLm (p:UInt8->Bool) (l:List UInt8):(l.dropWhile p).length<=l.length:=by
 rw[<-a6i,aP5];omega
theorem aLn (line:List UInt8):(CG line).length<=line.length:=aQK (aLm _ _) (a6c _ _)
theorem aLo (p:UInt8->Bool) (l:List UInt8):(l.takeWhile p).length<=l.length:=(List.takeWhile_sublist p).length_le
theorem M4 {line:List UInt8}(hl:pK line):T4 line=some (CG line):=by
 have hl':=hl;unfold pK at hl';have hc:=a6c 10 line;unfold T4;rw[if_pos (fun hh=>by unfold pA;omega),if_pos (fun hh=>by simp only[aRs,aPQ] at hh;omega),aEc line 10 10 rfl];have hb:(if decide (line.getLast? =some 10)=true then(if pA ((line.length:Int)- (1:Int)) then(if 0<=(0:Int)/\(0:Int)<=((line.length:Int)- (1:Int))/\((line.length:Int)- (1:Int))<=(line.length:Int) then some (pR line (0:Int) ((line.length:Int)- (1:Int))) else none) else none) else some line)=some (uS 10 line):=by
  unfold uS;by_cases h:line.getLast? =some 10
  ·have:=a6d h;rw[if_pos (by simpa using h),if_pos h,if_pos (by unfold pA;omega),if_pos (by omega),a6f this]
  ·rw[if_neg (by simpa using h),if_neg h]
 rw[hb];have hf:pK (uS 10 line):=by unfold pK;omega
 have hlp:=aEe hf (uS 10 line).length 0 (by omega);rw[aQL,aQo] at hlp;have htw:=aLo F7 (uS 10 line);unfold rC;rw[aPM,show ((0:Nat):Int)=(0:Int) from rfl] at*;rw[hlp,aPM,if_pos (by omega),A1,a6i];rfl
def vC (s:List UInt8):List UInt8×Bool:=((xQ 1 s).1,decide ((xQ 1 s).2.2=0)&&rR (xQ 1 s).1)
theorem a6j (s:List UInt8):(vC s).1.length<=s.length:=a58 1 s
theorem aLp:vC []=([],true):=by rfl
theorem JA {s:List UInt8}(hs:s.length<=4000000000):CB s=some (vC s):=by
 have hf:pK (xQ 1 s).1:=by have:=a58 1 s;unfold pK;omega
 unfold CB;rw[aKS (by decide) (by decide) (by unfold pK;omega),aPM,(GZ _ hf).1,if_pos uA,(GZ _ hf).2];rfl
theorem PG {s:List UInt8}(hs:s.length<=4000000000):BF s=some (vC s):=by
 have hf:pK (xQ 1 s).1:=by have:=a58 1 s;unfold pK;omega
 unfold BF;rw[aKT (by decide) (by decide) (by unfold pK;omega),aPM,LU _ hf,if_pos uA];rfl
def DK (s:List UInt8):Option (List UInt8×List UInt8):=(rS 61 s).map fun k=>(uS 32 (s.take k),A3 32 (s.drop (k+1)))
def aEf:Option (List UInt8×List UInt8)->List UInt8×List UInt8×Bool
 |none=>([],[],false)
 |some p=>(p.1,p.2,true)
theorem aLq {s:List UInt8}{p:List UInt8×List UInt8}(h:DK s=some p):p.1.length<=s.length/\p.2.length<=s.length:=by
 unfold DK at h;cases hk:rS 61 s with
 |none=>rw[hk] at h;cases h
 |some k=>
  rw[hk] at h;cases h;have h1:=a6c 32 (s.take k);have h2:=aLh 32 (s.drop (k+1));rw[aQc] at h1;rw[aP5] at h2;exact⟨by show (uS 32 (s.take k)).length<=_;omega,by show (A3 32 (s.drop (k+1))).length<=_;omega⟩
theorem a6k {s:List UInt8}(hs:pK s):LA s=some (aEf (DK s)):=by
 have hE:II 1 s 61=some (A2 (rS 61 s)):=aDS (by decide) (by decide) s 61 hs;have hs':=hs;unfold pK at hs';unfold LA;rw[hE,aPM];unfold DK;cases hk:rS 61 s with
 |none=>rfl
 |some k=>
  have hlt:=PC s.length s k (Nat.le_refl _) hk;show (if decide ((k:Int)<0)=true then _ else _)=_;have ht:pR s 0 (A2 (some k))=s.take k:=LR;have hd:pR s (A2 (some k)+1) (s.length:Int)=s.drop (k+1):=A1 (k:=k+1);have he:A2 (some k)=(k:Int):=rfl;rw[ht,hd,he,if_neg (by simp<;>omega),if_pos (by omega),if_pos (by unfold pA;omega),if_pos (by omega)]
  have hlk:(s.take k).length=k:=by rw[aQc];omega
  rw[if_pos (fun hh=>by unfold pA;omega),if_pos (fun hh=>by simp only[aRs,aPQ] at hh;omega),aEc (s.take k) 32 32 rfl];have hb:(if decide ((s.take k).getLast? =some 32)=true then(if pA (((s.take k).length:Int)- (1:Int)) then(if 0<=(0:Int)/\(0:Int)<=(((s.take k).length:Int)- (1:Int))/\(((s.take k).length:Int)- (1:Int))<=((s.take k).length:Int) then some (pR (s.take k) (0:Int) (((s.take k).length:Int)- (1:Int))) else none) else none) else some (s.take k))=some (uS 32 (s.take k)):=by
   unfold uS;by_cases h:(s.take k).getLast? =some 32
   ·have:=a6d h;rw[if_pos (by simpa using h),if_pos h,if_pos (by unfold pA;omega),if_pos (by omega),a6f this]
   ·rw[if_neg (by simpa using h),if_neg h]
  rw[hb];unfold rC;rw[aPM,F6,aPM,CF];unfold A3;by_cases h:(s.drop (k+1)).head? =some 32
  ·have:=a6e h;rw[if_pos (by simpa using h),if_pos (by omega),a6h,Option.map_some,if_pos h];rfl
  ·rw[if_neg (by simpa using h),Option.map_some,if_neg h];rfl
def rQ (f:Int) (k v:List UInt8) (bad:Bool):Int×List UInt8×List UInt8:=
 if f=0 then(1,[],[])
 else if f=1 then(2,[],[])
 else if f=8 then(9,[],[])
 else if bad=true then(0,[],[])
 else if f=2 then(3,[],v)
 else if f=3 then(if uD v=true then(4,[],v) else(0,[],[]))
 else if f=4 then(5,[],v)
 else if f=5 then(if 0<=vW v then(6,[],v) else(0,[],[]))
 else if f=6 then(if sC v=true then(7,[],v) else(0,[],[]))
 else if f=7 then(if sC k=true then(8,k,v) else(0,[],[]))
 else if f=9 then(if k=[]\/200<k.length then(0,[],[]) else(10,k,v))
 else(0,[],[])
theorem aEg {f:Int}{k v:List UInt8}(h0:f≠0) (h1:f≠1) (h8:f≠8):rQ f k v true=(0,[],[]):=by
 unfold rQ;rw[if_neg h0,if_neg h1,if_neg h8,if_pos rfl]
theorem M5 {k v:List UInt8}{bad:Bool}:rQ 10 k v bad=(0,[],[]):=by
 unfold rQ;rw[if_neg (by decide),if_neg (by decide),if_neg (by decide)];split
 ·rfl
 ·rw[if_neg (by decide),if_neg (by decide),if_neg (by decide),if_neg (by decide),if_neg (by decide),if_neg (by decide),if_neg (by decide)]
theorem aLr (v:List UInt8):C8 vV v=some (decide (0<=vW v)):=by
 unfold C8;rw[(aDD v).2];rfl
theorem UH {b:Bool}(h: ¬b=true):b=false:=by simpa using h
def vD (a:List UInt8):Int×List UInt8:=
 if a=[33,116,97,103] then(3,[]) else if a=[33,115,111,117,114,99,101] then(4,[]) else if a=[33,115,116,97,116,101] then(5,[]) else if a=[33,102,108,97,103] then(6,[]) else if sW 33 58 a=true then(7,a.drop 2) else(10,[])
theorem PH {x y:UInt8}{s:List UInt8}(h:sW x y s=true): ∃r,s=x::y::r:=by
 match s,h with
 |[],h=>exact absurd h (by simp [sW])
 |[_],h=>exact absurd h (by simp [sW])
 |b::c::r,h=>
  have:b=x/\c=y:=by simpa[sW] using h
  exact⟨r,by rw[this.1,this.2]⟩
theorem aEh {k v:List UInt8}:rQ 7 k v false=if sC k=true then(8,k,v) else(0,[],[]):=rfl
theorem aEi {k v:List UInt8}:rQ 9 k v false=if k=[]\/200<k.length then(0,[],[]) else(10,k,v):=rfl
theorem aLs {t v:List UInt8}:AR (33::t) v=some (rQ (vD (33::t)).1 (vD (33::t)).2 v false):=by
 unfold AR;rw[if_neg (by simp),a5M,if_pos uA];have hst:C8 ([([110,101,119]:List UInt8),([102,117,122,122,121]:List UInt8),([116,114,97,110,115,108,97,116,101,100]:List UInt8),([114,101,118,105,101,119,101,100]:List UInt8),([111,98,115,111,108,101,116,101]:List UInt8)]:List (List UInt8)) v=some (decide (0<=vW v)):=aLr v;rw[hst,if_pos uA,U0,if_pos uA,a55,aPM,H0];rw[if_pos (fun hh=>by obtain⟨r,hr⟩:=PH (by simpa using hh);rw[hr];simp only[aPR];omega),U0,if_pos uA];rw[B5,B5,B5,B5];by_cases h1:t=[116,97,103]
 ·subst h1;cases hT:uD v<;>simp [vD,rQ,sW,pZ,hT]
 by_cases h2:t=[115,111,117,114,99,101]
 ·subst h2;simp [vD,rQ]
 by_cases h3:t=[115,116,97,116,101]
 ·subst h3;by_cases hT:0<=vW v<;>simp [vD,rQ,hT,sW,pZ]
 by_cases h4:t=[102,108,97,103]
 ·subst h4;cases hT:sC v<;>simp [vD,rQ,sW,pZ,hT]
 have n1: ¬(33::t:List UInt8)=[33,116,97,103]:=by simpa using h1
 have n2: ¬(33::t:List UInt8)=[33,115,111,117,114,99,101]:=by simpa using h2
 have n3: ¬(33::t:List UInt8)=[33,115,116,97,116,101]:=by simpa using h3
 have n4: ¬(33::t:List UInt8)=[33,102,108,97,103]:=by simpa using h4
 unfold vD;rw[decide_eq_false n1,decide_eq_false n2,decide_eq_false n3,decide_eq_false n4,if_neg n1,if_neg n2,if_neg n3,if_neg n4];simp only[aRL,aQG,aR1];by_cases h5:sW 33 58 (33::t)=true
 ·obtain⟨r,hr⟩:=PH h5;have hc:pR (33::t) 2 ((33::t).length:Int)=(33::t).drop 2:=A1 (k:=2);rw[h5,hc,Bool.true_and,if_pos rfl];cases hN:sC ((33::t).drop 2) with
  |true=>
   rw[if_pos rfl,if_pos (by rw[hr];simp only[aPR];omega)];show some ((8:Int),(33::t).drop 2,v)=some (rQ 7 ((33::t).drop 2) v false);rw[aEh,if_pos hN]
  |false=>
   rw[if_neg aQr,if_pos (by simp only[aPR];omega),if_pos (by rfl)];show some ((0:Int),[],[])=some (rQ 7 ((33::t).drop 2) v false);rw[aEh,if_neg (by rw[hN];exact aQr)]
 ·rw[UH h5,aRL,if_neg aQr,if_neg aQr,if_pos (by simp only[aPR];omega),if_pos (by rfl),M5]
theorem aLt {c:UInt8}{u v:List UInt8}(hc:c≠33) (hl:(c::u).length<=4000000000):AR (c::u) v=some (rQ 9 (vC (c::u)).1 v (!(vC (c::u)).2)):=by
 unfold AR;have hn: ∀w:List UInt8,decide ((c::u:List UInt8)=33::w)=false:=fun w=>decide_eq_false (fun h=>hc (by injection h));have hb:sW 33 58 (c::u)=false:=by
  cases h:sW 33 58 (c::u) with
  |false=>rfl
  |true=>obtain⟨r,hr⟩:=PH h;exact absurd (by injection hr) hc
 have h33:decide (pZ (c::u) 0=33)=false:=by
  refine decide_eq_false fun h=>hc ?_;have:(c.toNat:Int)=((33:UInt8).toNat:Int):=h;exact CE.1 this
 rw[if_neg (by simp),a5M,if_pos uA];simp only[hn,aRL,aQG,aR1];rw[if_pos (fun h=>by cases h),if_pos (fun h=>by cases h),a55,aPM,H0,hb];rw[if_pos (fun h=>by cases h),if_pos (fun h=>by cases h),aRL,if_neg aQr,if_pos (by simp only[aPR];omega),h33,if_neg aQr,PG hl,aPM];cases hb2:(vC (c::u)).2 with
 |false=>rfl
 |true=>
  simp only[Bool.not_true,Bool.false_or,aQT,aPQ];rw[aEi];by_cases hk:(vC (c::u)).1=[]\/200<(vC (c::u)).1.length
  ·rw[if_pos hk,if_pos (by rcases hk with h|h;exact .inl h;exact .inr (by omega))]
  ·rw[if_neg hk,if_neg (fun h=>hk (by rcases h with h|h;exact .inl h;exact .inr (by omega)))]
theorem aLu {x b:UInt8}(h:b≠x) (t:List UInt8): ∃t',uS x (b::t)=b::t':=by
 unfold uS;split
 ·rename_i hl;cases t with
  |nil=>simp at hl;exact absurd hl h
  |cons c r=>exact⟨(c::r).dropLast,rfl⟩
 ·exact⟨t,rfl⟩
theorem aLv {x:UInt8}(b:UInt8) (t:List UInt8):uS x (b::t)=[]\/∃t',uS x (b::t)=b::t':=by
 unfold uS;split
 ·cases t with
  |nil=>exact .inl rfl
  |cons c r=>exact .inr ⟨(c::r).dropLast,rfl⟩
 ·exact .inr ⟨t,rfl⟩
theorem aLw {b:UInt8}{u:List UInt8}(h:rS 61 (b::u)=some 0):b=61:=by
 by_cases h1:b=61
 ·exact h1
 ·exfalso;by_cases h2:b=92
  ·rw[PB h1 h2] at h;cases h3:rS 61 (u.drop 1)<;>rw[h3] at h<;>simp at h
  ·rw[J4 h1 h2] at h;cases h3:rS 61 u<;>rw[h3] at h<;>simp at h
theorem aLx (a:List UInt8):(vD a).1≠0/\(vD a).1≠1/\(vD a).1≠8/\0<=(vD a).1/\(vD a).1<=10:=by
 unfold vD
 repeat' split
 all_goals (dsimp only;decide)
theorem aLy (a:List UInt8):(vD a).2.length<=a.length:=by
 unfold vD
 repeat' split
 all_goals simp
theorem aEj {s a v0:List UInt8}(h:LA s=some (a,v0,true)) (hv:v0.length<=4000000000):J0 s=some ((vD a).1,(vD a).2,(vC v0).1,!(vC v0).2):=by
 unfold J0;rw[h,aPM,if_neg (show¬(!true)=true by decide),JA hv,aPM,M3,aPM,H0];unfold vD;by_cases h1:a=[33,116,97,103]
 ·rw[if_pos (by simpa using h1),if_pos h1]
 rw[if_neg (by simpa using h1),if_neg h1];by_cases h2:a=[33,115,111,117,114,99,101]
 ·rw[if_pos (by simpa using h2),if_pos h2]
 rw[if_neg (by simpa using h2),if_neg h2];by_cases h3:a=[33,115,116,97,116,101]
 ·rw[if_pos (by simpa using h3),if_pos h3]
 rw[if_neg (by simpa using h3),if_neg h3];by_cases h4:a=[33,102,108,97,103]
 ·rw[if_pos (by simpa using h4),if_pos h4]
 rw[if_neg (by simpa using h4),if_neg h4];by_cases h5:sW 33 58 a=true
 ·obtain⟨r,hr⟩:=PH h5;rw[if_pos h5,if_pos h5,if_pos (by rw[hr];simp only[aPR];omega)];rw[show pR a 2 (a.length:Int)=a.drop 2 from A1 (k:=2)]
 ·rw[if_neg h5,if_neg h5]
theorem aLz {line:List UInt8}(hl:line.length<=4000000000): ∃(f:Int) (k v:List UInt8) (bad:Bool),uQ line=some (f,k,v,bad)/\A0 (CG line)=some (rQ f k v bad)/\k.length<=4000000000/\v.length<=4000000000/\0<=f/\f<=10:=by
 have hcl:=aLn line;unfold uQ A0;rw[M4 (by unfold pK;omega),aPM];generalize CG line=s at hcl;have hs:s.length<=4000000000:=by omega
 cases s with
 |nil=>exact⟨0,[],[],false,rfl,rfl,by decide,by decide,by decide,by decide⟩
 |cons b u=>
  rw[if_neg (show¬decide ((b::u:List UInt8)=[])=true by simp),if_neg (show¬decide ((b::u:List UInt8)=[])=true by simp),M3,aPM,a55,H0];by_cases hp:sW 35 46 (b::u)=true
  ·obtain⟨r,hr⟩:=PH hp;rw[if_pos hp,if_pos hp,hr,if_neg (show¬decide ((35::46::r:List UInt8)=[37,37])=true by simp)];rw[hr] at hs;have hc2:pR (35::46::r) 2 ((35::46::r).length:Int)=r:=A1 (k:=2);rw[if_pos (show 0<=(2:Int)/\(2:Int)<=((35::46::r).length:Int)/\((35::46::r).length:Int)<=((35::46::r).length:Int) by simp only[aPR];omega),hc2,aLk];cases r with
   |nil=>
    refine⟨2,[],[],false,if_pos (by simp),?_,by decide,by decide,by decide,by decide⟩;show ((BF []).bind _)=_;rw[PG (by decide),aPM,aLp];rfl
   |cons c w=>
    have hb2:pZ (35::46::c::w) 2=(c.toNat:Int):=rfl;rw[if_neg (show¬decide ((35::46::c::w:List UInt8)=[35,46])=true by simp),if_pos (show 0<=(2:Int)/\(2:Int)<((35::46::c::w).length:Int) by simp only[aPR];omega),hb2];by_cases h32:c=32
    ·subst h32;have hc3:pR (35::46::32::w) 3 ((35::46::32::w).length:Int)=w:=A1 (k:=3);simp only[aPR] at hs;have hw:w.length<=4000000000:=by omega
     refine⟨2,[],(vC w).1,!(vC w).2,?_,?_,by decide,by have:=a6j w;omega,by decide,by decide⟩
     ·rw[if_neg (by decide),if_pos (show 0<=(3:Int)/\(3:Int)<=((35::46::32::w).length:Int)/\((35::46::32::w).length:Int)<=((35::46::32::w).length:Int) by simp only[aPR];omega),hc3,JA hw];rfl
     ·show ((BF w).bind _)=_;rw[PG hw,aPM];cases hb2:(vC w).2 with
      |false=>rfl
      |true=>rfl
    ·have hcb:A3 32 (c::w)=c::w:=by unfold A3;rw[if_neg (by simpa using h32)]
     refine⟨10,[],[],false,?_,?_,by decide,by decide,by decide,by decide⟩
     ·rw[if_pos];simp only[aQf,aQq];intro h;exact h32 (CE.1 (show (c.toNat:Int)=((32:UInt8).toNat:Int) from h))
     ·simp only[aPR] at hs;rw[aPM,aPM];rw[hcb,PG (by simp only[aPR];omega),aPM,M5,if_pos];rw[aQT];right;simp [h32]
  ·rw[if_neg hp,if_neg hp,F6,aPM,CF,if_pos (show 0<=(0:Int)/\(0:Int)<((b::u).length:Int) by simp only[aPR];omega)];by_cases h35:b=35
   ·subst h35;refine⟨1,[],[],false,if_pos (by simp),?_,by decide,by decide,by decide,by decide⟩;rw[if_neg (show¬decide ((35::u:List UInt8)=[37,37])=true by simp),if_pos (show decide (pZ (35::u) 0=35)=true from rfl)];rfl
   ·rw[if_neg (by simpa using h35),F6,aPM,CF];have hbyte: ¬decide (pZ (b::u) 0=35)=true:=by
     simp only[aPQ];intro h;exact h35 (CE.1 (show (b.toNat:Int)=((35:UInt8).toNat:Int) from h))
    rw[if_neg hbyte];have hfs:pK (b::u):=by unfold pK;omega
    have hE:GI 1 (b::u) 61=some (A2 (rS 61 (b::u))):=by rw[aKE];exact aDS (by decide) (by decide) (b::u) 61 hfs
    rw[hE,aPM];by_cases hpc:(b::u:List UInt8)=[37,37]
    ·rw[hpc];exact⟨8,[],[],false,rfl,rfl,by decide,by decide,by decide,by decide⟩
    rw[if_neg (show¬decide ((b::u:List UInt8)=[37,37])=true by simpa using hpc),if_neg (show¬decide ((b::u:List UInt8)=[37,37])=true by simpa using hpc)];have hsep:=a6k hfs;cases hk:rS 61 (b::u) with
    |none=>
     have hs0:DK (b::u)=none:=by unfold DK;rw[hk];rfl
     rw[hs0] at hsep;refine⟨10,[],[],false,?_,?_,by decide,by decide,by decide,by decide⟩
     ·by_cases h33:b=33
      ·rw[if_pos (by simpa using h33)];unfold J0;rw[hsep];rfl
      ·rw[if_neg (by simpa using h33),hsep];rfl
     ·rw[M5];rfl
    |some k=>
     have hlt:=PC (b::u).length (b::u) k (Nat.le_refl _) hk;have hs1:DK (b::u)=some (uS 32 ((b::u).take k),A3 32 ((b::u).drop (k+1))):=by unfold DK;rw[hk];rfl
     have hlen:=aLq hs1;rw[hs1] at hsep;have ht:pR (b::u) 0 (A2 (some k))=(b::u).take k:=LR;have hd:pR (b::u) (A2 (some k)+1) ((b::u).length:Int)=(b::u).drop (k+1):=A1 (k:=k+1);have htk:pK ((b::u).take k):=by unfold pK;rw[aQc];omega
     rw[aPM,ht,hd,show A2 (some k)=(k:Int) from rfl,if_neg (show¬decide ((k:Int)<0)=true by simp),if_pos (show 0<=(0:Int)/\(0:Int)<=(k:Int)/\(k:Int)<=((b::u).length:Int) by omega)];rw[a6g htk,aPM,if_pos (show pA ((k:Int)+1) by unfold pA;omega),if_pos (show 0<=((k:Int)+1)/\((k:Int)+1)<=((b::u).length:Int)/\((b::u).length:Int)<=((b::u).length:Int) by omega),aLj,aPM];have hany:uS 32 ((b::u).take k)=[]\/∃t',uS 32 ((b::u).take k)=b::t':=by
      cases k with
      |zero=>exact .inl rfl
      |succ k=>exact aLv b (u.take k)
     have hbang:b=33->∃t',uS 32 ((b::u).take k)=33::t':=by
      rintro rfl;cases k with
      |zero=>exact absurd (aLw hk) (by decide)
      |succ k=>exact aLu (by decide) _
     generalize uS 32 ((b::u).take k)=a at hsep hlen hany hbang⊢;generalize A3 32 ((b::u).drop (k+1))=v0 at hsep hlen⊢;dsimp only at hlen;have hv0:v0.length<=4000000000:=by omega
     have hlv:=a6j v0;rw[PG hv0,aPM];by_cases h33:b=33
     ·obtain⟨t',rfl⟩:=hbang h33;have hf:=aLx (33::t');have hk2:=aLy (33::t');refine⟨(vD (33::t')).1,(vD (33::t')).2,(vC v0).1,!(vC v0).2,?_,?_,by omega,by omega,hf.2.2.2.1,hf.2.2.2.2⟩
      ·rw[if_pos (by simpa using h33),aEj hsep hv0];rfl
      ·cases hb2:(vC v0).2 with
       |false=>rw[if_pos (by rfl),show (!false)=true from rfl,aEg hf.1 hf.2.1 hf.2.2.1]
       |true=>
        rw[if_neg (by decide),aLs,aPM];rfl
     ·rw[if_neg (by simpa using h33),hsep,aPM];rcases hany with rfl|⟨t',rfl⟩
      ·refine⟨10,[],[],false,rfl,?_,by decide,by decide,by decide,by decide⟩;rw[M5];cases hb2:(vC v0).2 with
       |false=>rfl
       |true=>rw[if_neg (by decide),show AR [] (vC v0).1=some (0,[],[]) by unfold AR;rfl];rfl
      ·have ha:(b::t').length<=4000000000:=by omega
       have hla:=a6j (b::t');refine⟨9,(vC (b::t')).1,(vC v0).1,(!(vC (b::t')).2)||(!(vC v0).2),?_,?_,by omega,by omega,by decide,by decide⟩
       ·unfold aEf;dsimp only;rw[if_neg (by simp),JA ha,aPM,JA hv0,aPM]
       ·cases hb2:(vC v0).2 with
        |false=>rw[if_pos (by rfl),show (!false)=true from rfl,Bool.or_true,aEg (by decide) (by decide) (by decide)]
        |true=>
         rw[if_neg (by decide),aLt h33 ha,aPM,show (!true)=false from rfl,Bool.or_false]
theorem aLA {s:List UInt8}{a i:Nat}(hai:a≤i) (hi:i<s.length) (hno: ∀j (h:j<s.length),a≤j→j<i→s[j]≠10) (h10:s[i]=10):((s.drop a).findIdx? fun b=>decide (b=10))=some (i-a):=by
  rw[aQp];refine⟨by rw[aP5];omega,?_,fun j hj=> ?_⟩
  · rw[List.getElem_drop]
    simp only[aPQ];rw[←h10];congr 1;omega
  · rw[List.getElem_drop]
    simp only[aPQ];exact hno (a+j) (by omega) (by omega) (by omega)
theorem aLB {s:List UInt8}{a:Nat}(hno: ∀j (h:j<s.length),a≤j→s[j]≠10):((s.drop a).findIdx? fun b=>decide (b=10))=none:=by
  rw[aQR];intro x hx;obtain⟨j,hj,rfl⟩:=aRa hx;rw[List.getElem_drop];simp only[aQq];rw[aP5] at hj;exact hno (a+j) (by omega) (by omega)
theorem aEk {s:List UInt8}{a i:Nat}(hai:a≤i) (hi:i<s.length) (hno: ∀j (h:j<s.length),a≤j→j<i→s[j]≠10) (h10:s[i]=10):sH s a=i+1:=by
  unfold sH;rw[a56,aLA hai hi hno h10];rw[show A2 (some (i-a))=((i-a:Nat):Int) from rfl,if_pos (by omega),aQv];omega
theorem aEl {s:List UInt8}{a:Nat}(hno: ∀j (h:j<s.length),a≤j→s[j]≠10):sH s a=s.length:=by
  unfold sH;rw[a56,aLB hno];exact if_neg (by decide)
theorem F8 {s:List UInt8}{n i:Nat}(h:s.length≤i):sI s n i=[]:=by
  cases n with
  |zero=>rfl
  |succ n=>rw[sI,if_neg (by omega)]
theorem aEm {s:List UInt8}{a b:Nat}:pR s (a:Int) (b:Int)=(s.drop a).take (b-a):=by
  unfold pR;rw[aQv,aQv]
def aEn (s:List UInt8) (q:List (List UInt8)×Int):Option (List (List UInt8)):=
  if (decide (q.2<(s.length:Int)))=true then
   if 0≤q.2∧q.2≤(s.length:Int)∧(s.length:Int)≤(s.length:Int) then
    if (q.1.length+([(pR s q.2 (s.length:Int))]:List (List UInt8)).length)*16≤140737488355328 then
     some ((q.1++([(pR s q.2 (s.length:Int))]:List (List UInt8))))
    else none
   else none
  else
   some (q.1)
theorem a6l {s:List UInt8}(hs:s.length≤4000000000): ∀(m i a n:Nat) (out:List (List UInt8)),i+m=s.length→a≤i→s.length≤n+a→out.length≤a→(∀j (h:j<s.length),a≤j→j<i→s[j]≠10)→
    rC (pY (IG s) (out,(a:Int),(i:Int))) (aEn s)=some (out++(sI s n a).map (·.2))
  | 0,i,a,n,out,hm,hai,hn,ho,hno=>by
    have:i=s.length:=by omega
    subst this;rw[tZ (r:=(out,(a:Int))) (by unfold IG;dsimp only;rw[if_neg (uR _)])];unfold rC aEn;rw[aPM];dsimp only;by_cases ha:a<s.length
    · obtain⟨n,rfl⟩: ∃n',n=n'+1:=⟨n-1,by omega⟩
      have hlt:=aEl (s:=s) (a:=a) (fun j h h1=>hno j h h1 h);rw[if_pos (by simpa using ha),if_pos (by omega),if_pos (by simp only[aPR,aPZ];omega),sI,if_pos ha,hlt,F8 (Nat.le_refl _),aEm];rfl
    ·rw[if_neg (by simp;omega),F8 (by omega),List.map_nil,List.append_nil]
  | m+1,i,a,n,out,hm,hai,hn,ho,hno=>by
    have hi:i<s.length:=by omega
    by_cases h10:s[i]=10
    · have hst:IG s (out,(a:Int),(i:Int))=some (.inl (out++[(s.drop a).take (i+1-a)],((i+1:Nat):Int),((i+1:Nat):Int))):=by
        unfold IG;dsimp only;rw[if_pos (sQ hi),if_pos (rO hi),yN hi,h10,if_pos (by rfl),if_pos (sJ (by omega)),if_pos (by omega),if_pos (by simp only[aPR,aPZ];omega)];rw[show ((i:Int)+1)=((i+1:Nat):Int) by omega,aEm,if_pos (show pA ((i+1:Nat):Int) by unfold pA;omega),if_pos (show pA ((i+1:Nat):Int) by unfold pA;omega)]
      have hlt:=aEk hai hi hno h10;obtain⟨n,rfl⟩: ∃n',n=n'+1:=⟨n-1,by omega⟩;rw[zT hst,a6l hs m (i+1) (i+1) n _ (by omega) (Nat.le_refl _) (by omega) (by simp;omega) (fun j h h1 h2=>by omega),sI,if_pos (by omega),hlt];simp
    · have hst:IG s (out,(a:Int),(i:Int))=some (.inl (out,(a:Int),((i+1:Nat):Int))):=by
        unfold IG;dsimp only;rw[if_pos (sQ hi),if_pos (rO hi),yN hi,if_neg (by simp only[aPQ];intro h;exact h10 (CE.1 (show (s[i].toNat:Int)=((10:UInt8).toNat:Int) from h))),if_pos (sJ (by omega))];rfl
      rw[zT hst,a6l hs m (i+1) a n out (by omega) (by omega) hn ho (fun j h h1 h2=>by
        by_cases hj:j=i
        ·subst hj;exact h10
        ·exact hno j h h1 (by omega))]
theorem a6m {s:List UInt8}(hs:s.length≤4000000000):T2 s=some ((uG s).map (·.2)):=by
  have h:=a6l hs s.length 0 0 s.length [] (by omega) (Nat.le_refl _) (by omega) (Nat.le_refl _) (fun j h h1 h2=>by omega);unfold T2;exact h
theorem aEo (s:List UInt8): ∀(n i:Nat),(sI s n i).length≤n
  |0,_=>Nat.le_refl _
  | n+1,i=>by
    rw[sI];split
    · have:=aEo s n (sH s i)
      simp only[aPR];omega
    ·simp
theorem DL {v:Ty}(a b:Int) (y:v.den): ∀l:List (Int×v.den),sD (.int .i64) v (uK (.int .i64) v a y l) b=if b=a then y else sD (.int .i64) v l b
 |[]=>by
  show (if decide (b=a)=true then y else v.zero)=if b=a then y else v.zero;by_cases h:b=a<;>simp [h]
 |(x,z)::r=>by
  have ih:=DL a b y r;show sD (.int .i64) v (if decide (a=x)=true then(a,y)::r else(x,z)::uK (.int .i64) v a y r) b=if b=a then y else(if decide (b=x)=true then z else sD (.int .i64) v r b);by_cases h:a=x
  ·rw[if_pos (aQD h)];show (if decide (b=a)=true then y else sD (.int .i64) v r b)=_;by_cases hb:b=a
   ·rw[if_pos (aQD hb),if_pos hb]
   ·rw[if_neg (by simpa using hb),if_neg hb,if_neg (by rw[<-h];simpa using hb)]
  ·rw[if_neg (by simpa using h)];show (if decide (b=x)=true then z else sD (.int .i64) v (uK (.int .i64) v a y r) b)=_;rw[ih];by_cases hb:b=a
   ·rw[if_pos hb,if_pos hb,if_neg (by rw[hb];simpa using h)]
   ·rw[if_neg hb,if_neg hb]
def PI (l:List (List UInt8×Bool)):Prop:= ∀p∈l,p.2=true
theorem aEp {a:List UInt8}: ∀{l:List (List UInt8×Bool)},PI l->sD .str .bool l a=false->uK .str .bool a true l=l++[(a,true)]
 |[],_,_=>rfl
 |(x,z)::r,h,hg=>by
  have hz:z=true:=h (x,z) aP8;have hg':(if decide (a=x)=true then z else sD .str .bool r a)=false:=hg;show (if decide (a=x)=true then(a,true)::r else(x,z)::uK .str .bool a true r)=_;by_cases hx:a=x
  ·rw[if_pos (aQD hx),hz] at hg';cases hg'
  ·rw[if_neg (by simpa using hx)] at hg'⊢;rw[aEp (fun p hp=>h p (aP1 _ hp)) hg'];rfl
theorem aEq {l:List (List UInt8×Bool)}{a:List UInt8}(h:PI l) (hg:sD .str .bool l a=false):PI (uK .str .bool a true l)/\(uK .str .bool a true l).length=l.length+1:=by
 rw[aEp h hg];refine⟨fun p hp=> ?_,by simp⟩;rcases aQn.1 hp with hp|hp
 ·exact h p hp
 ·rw[aPY.1 hp]
structure BI (cm:List (List UInt8)) (fl:List (List UInt8)) (fd:List qU) (once:List (Int×Bool)) (fm dm:List (List UInt8×Bool)) (hs ht:Bool):Prop where
 c:cm.length<=20
 f:fl.length<=20
 d:fd.length<=20
 o5:sD (.int .i64) .bool once 5=hs
 o6:sD (.int .i64) .bool once 6=ht
 g1: ∀x,sD .str .bool fm x=fl.any fun y=>decide (y=x)
 g1t:PI fm
 g1n:fm.length=fl.length
 g2: ∀x,sD .str .bool dm x=fd.any fun y=>decide (y.1=x)
 g2t:PI dm
 g2n:dm.length=fd.length
theorem a6n:BI [] [] [] [] [] [] false false:=⟨by decide,by decide,by decide,rfl,rfl,fun _=>rfl,fun _ h=>by(cases h),rfl,fun _=>rfl,fun _ h=>by(cases h),rfl⟩
theorem a6o (l:List (List UInt8)) (s:List UInt8) (hl:pK l):T7 l s=some (l.any fun x=>decide (x=s)):=by
 unfold pK at hl;have h:=zV (f:=T6 l s) (l:=l) (fun x=>decide (x=s)) (fun _=>true) (fun i h=>by
  unfold T6;rw[if_pos (sQ h),if_pos (rO h),xB (t:= .str) h,if_pos (sJ (by omega))]) (by
  unfold T6;rw[if_neg (uR _)])
 unfold T7;rw[h,F2,a5N]
theorem aEr {l:List (List UInt8)}{x:List UInt8}(hl:pK l): ∀(n j:Nat),j+n=l.length->pY (KY l x) (j:Int)=some ((j+((l.drop j).findIdx? fun y=> !Op.bytesLess y x).getD n:Nat):Int)
 |0,j,hj=>by
  have:j=l.length:=by omega
  subst this;rw[aQz];refine tZ ?_;unfold KY;rw[if_pos (fun hh=>by simp at hh),if_neg (by simp)];rfl
 |n+1,j,hj=>by
  have hlt:j<l.length:=by omega
  unfold pK at hl;have hst:KY l x (j:Int)=if Op.bytesLess l[j] x=true then some (.inl ((j+1:Nat):Int)) else some (.inr (j:Int)):=by
   unfold KY;rw[if_pos (fun _=>rO hlt),xB (t:= .str) hlt,sQ hlt,Bool.true_and,if_pos (sJ (by omega))];rfl
  rw[aQa hlt,aQ2];cases hb:Op.bytesLess l[j] x with
  |true=>
   rw[zT (hst.trans (if_pos hb)),aEr hl n (j+1) (by omega)];simp only[Bool.not_true,aQG,aR1];cases(l.drop (j+1)).findIdx? fun y=> !Op.bytesLess y x with
   |none=>simp;omega
   |some q=>simp;omega
  |false=>
   rw[tZ (hst.trans (if_neg (by rw[hb];exact aQr)))];simp
theorem a6p {l:List (List UInt8)}(hl:pK l) (x:List UInt8):T8 l x=some (DJ l x):=by
 have h:=aEr (x:=x) hl l.length 0 (by omega);have hl':=hl;unfold pK at hl';have hk:=aK7 l x;rw[aQL,aQo] at h;have h2:pY (KY l x) (0:Int)=some ((vN l x:Nat):Int):=h;unfold T8;rw[h2];unfold rC;rw[aPM,if_pos (by omega),LR,A1];have ht:(l.take (vN l x)).length=vN l x:=by rw[aQc];omega
 have hd:(l.drop (vN l x)).length=l.length-vN l x:=aP5;rw[if_pos (by rw[ht];simp only[aPZ];omega),if_pos (by simp only[List.nil_append,aPR,aPZ];rw[ht];omega),if_pos (by omega),if_pos (by simp only[List.nil_append,aPP,aPR,aPZ];rw[ht,hd];omega)];rfl
theorem aLC {l:List qU}{n v:List UInt8}(h:(l.any fun y=>decide (y.1=n))=false):(BG l n v).length=l.length+1/\∀x,((BG l n v).any fun y=>decide (y.1=x))=(decide (n=x)||l.any fun y=>decide (y.1=x)):=by
 have hk:y7 l n=none:=by
  unfold y7;have:=a5L (p:=fun y:qU=>decide (y.1=n)) (l:=l);rw[h] at this;cases hf:l.findIdx? fun y=>decide (y.1=n) with
  |none=>rfl
  |some k=>rw[hf] at this;cases this
 have he:BG l n v=l.take (yQ l n)++[(n,v,())]++l.drop (yQ l n):=by unfold BG;rw[hk];rfl
 have hle:=aDF l n;rw[he];refine⟨by simp;omega,fun x=> ?_⟩;have ha:(l.any fun y=>decide (y.1=x))=((l.take (yQ l n)).any (fun y=>decide (y.1=x))||(l.drop (yQ l n)).any fun y=>decide (y.1=x)):=by
  rw[<-List.any_append,aQ3]
 rw[List.any_append,List.any_append,ha];simp only[List.any_cons,List.any_nil,Bool.or_false];cases(l.take (yQ l n)).any (fun y=>decide (y.1=x))<;>cases decide (n=x)<;>rfl
section
variable {cm:List (List UInt8)}{fl:List (List UInt8)}{fd:List qU}{once:List (Int×Bool)}{fm dm:List (List UInt8×Bool)}{hs ht:Bool}(h:BI cm fl fd once fm dm hs ht)
variable {src x1 x2 a1 a2:List UInt8}{a3:List (List UInt8)}{st op op':Int}{k v:List UInt8}{bad:Bool}(hk:k.length<=4000000000) (hv:v.length<=4000000000)
def JB (cm:List (List UInt8)) (fl:List (List UInt8)) (fd:List qU) (once:List (Int×Bool)) (fm dm:List (List UInt8×Bool)) (hs ht:Bool) (src x1 x2 a1 a2:List UInt8) (a3:List (List UInt8)) (st op op':Int) (f:Int) (k v:List UInt8) (bad:Bool):Prop:=
 ((rQ f k v bad).1=0/\∃r,tM ((x1,(src,(x2,(cm,(s5 fl,(st,(fd,()))))))),(hs,(ht,(op',())))) (f,(k,(v,(bad,()))))=some r/\r.2.2.2.2.2.2.2=3)\/
 ((rQ f k v bad).1=f+1/\∃e cm' src' st' fd' once' fm' dm' fl' hs' ht',tQ cm a1 src a2 a3 (st,(fd,())) (op,()) ((rQ f k v bad).1,((rQ f k v bad).2.1,((rQ f k v bad).2.2,()))) once fm dm fl=some (e,cm',src',st',fd',once',fm',dm',fl')/\
  tM ((x1,(src,(x2,(cm,(s5 fl,(st,(fd,()))))))),(hs,(ht,(op',())))) (f,(k,(v,(bad,()))))=some (src',cm',s5 fl',st',fd',hs',ht',e)/\BI cm' fl' fd' once' fm' dm' hs' ht'/\sD (.int .i64) .bool once' 4=sD (.int .i64) .bool once 4)
include h
theorem aEs:JB cm fl fd once fm dm hs ht src x1 x2 a1 a2 a3 st op op' 2 k v bad:=by
 cases bad with
 |true=>exact .inl ⟨rfl,(src,cm,s5 fl,st,fd,hs,ht,3),by unfold tM;dsimp only;rw[if_pos (show decide ((2:Int)=2)=true from rfl),if_pos rfl],rfl⟩
 |false=>
  refine .inr ⟨rfl,?_⟩;rw[show rQ 2 k v false=(3,[],v) from rfl];unfold tM tQ;dsimp only;have hc:=h.c;rw[if_pos (show decide ((2:Int)=2)=true from rfl),if_neg aQr,if_pos (show decide ((3:Int)=3)=true from rfl)];by_cases h20:cm.length=20
  ·rw[if_pos (by simp;omega),if_pos (by simp;omega)];exact⟨_,_,_,_,_,_,_,_,_,_,_,rfl,rfl,h,rfl⟩
  ·rw[if_neg (show¬decide ((cm.length:Int)=20)=true by simp;omega),if_pos (by simp only[aPR,aPZ];omega),if_neg (show¬decide ((20:Int)<=(cm.length:Int))=true by simp;omega),if_pos (by simp only[aPZ];omega),if_pos (by simp only[List.nil_append,aPR,aPZ];omega)];exact⟨_,_,_,_,_,_,_,_,_,_,_,rfl,rfl,⟨by simp;omega,h.f,h.d,h.o5,h.o6,h.g1,h.g1t,h.g1n,h.g2,h.g2t,h.g2n⟩,rfl⟩
theorem aLD:JB cm fl fd once fm dm hs ht src x1 x2 a1 a2 a3 st op op' 4 k v bad:=by
 cases bad with
 |true=>exact .inl ⟨rfl,(src,cm,s5 fl,st,fd,hs,ht,3),by unfold tM;dsimp only;rw[if_neg (show¬decide ((4:Int)=2)=true by decide),if_pos (show decide ((4:Int)=4)=true from rfl),if_pos rfl],rfl⟩
 |false=>
  refine .inr ⟨rfl,?_⟩;rw[show rQ 4 k v false=(5,[],v) from rfl];unfold tM tQ;dsimp only;rw[if_neg (show¬decide ((4:Int)=2)=true by decide),if_pos (show decide ((4:Int)=4)=true from rfl),if_neg aQr,if_neg (show¬decide ((5:Int)=3)=true by decide),if_neg (show¬decide ((5:Int)=4)=true by decide),if_pos (show decide ((5:Int)=5)=true from rfl)];unfold rC;rw[aPM];rw[if_pos (show decide ((5:Int)=5)=true from rfl),h.o5];cases hs with
  |true=>
   rw[if_pos rfl,if_pos rfl];exact⟨_,_,_,_,_,_,_,_,_,_,_,rfl,rfl,h,rfl⟩
  |false=>
   rw[if_neg aQr,if_neg aQr,if_pos (show decide ((5:Int)=5)=true from rfl)];refine⟨_,_,_,_,_,_,_,_,_,_,_,rfl,rfl,⟨h.c,h.f,h.d,?_,?_,h.g1,h.g1t,h.g1n,h.g2,h.g2t,h.g2n⟩,?_⟩
   ·rw[DL,if_pos rfl]
   ·rw[DL,if_neg (by decide)];exact h.o6
   ·rw[DL,if_neg (by decide)]
theorem aLE:JB cm fl fd once fm dm hs ht src x1 x2 a1 a2 a3 st op op' 5 k v bad:=by
 cases bad with
 |true=>exact .inl ⟨rfl,(src,cm,s5 fl,st,fd,hs,ht,3),by unfold tM;dsimp only;rw[if_neg (show¬decide ((5:Int)=2)=true by decide),if_neg (show¬decide ((5:Int)=4)=true by decide),if_pos (show decide ((5:Int)=5)=true from rfl),if_pos (fun hh=>by cases hh)];rfl,rfl⟩
 |false=>
  by_cases hst:0<=vW v
  ·have hp:rQ 5 k v false=(6,[],v):=by
    show (if 0<=vW v then((6:Int),([]:List UInt8),v) else(0,[],[]))=_;rw[if_pos hst]
   refine .inr ⟨by rw[hp];rfl,?_⟩;rw[hp];unfold tM tQ;dsimp only;rw[if_neg (show¬decide ((5:Int)=2)=true by decide),if_neg (show¬decide ((5:Int)=4)=true by decide),if_pos (show decide ((5:Int)=5)=true from rfl),U1,if_pos uA,B5,Bool.false_or,if_neg (show¬decide (vW v<0)=true by simp;omega)];rw[if_neg (show¬decide ((6:Int)=3)=true by decide),if_neg (show¬decide ((6:Int)=4)=true by decide),if_neg (show¬decide ((6:Int)=5)=true by decide)];unfold rC;rw[aPM];rw[if_pos (show decide ((6:Int)=6)=true from rfl),h.o6];cases ht with
   |true=>
    rw[if_pos rfl,if_pos rfl];exact⟨_,_,_,_,_,_,_,_,_,_,_,rfl,rfl,h,rfl⟩
   |false=>
    rw[if_neg aQr,if_neg aQr,if_neg (show¬decide ((6:Int)=5)=true by decide),if_pos (show decide ((6:Int)=6)=true from rfl)];rw[show BB ([([110,101,119]:List UInt8),([102,117,122,122,121]:List UInt8),([116,114,97,110,115,108,97,116,101,100]:List UInt8),([114,101,118,105,101,119,101,100]:List UInt8),([111,98,115,111,108,101,116,101]:List UInt8)]:List (List UInt8)) v=some (vW v) from(aDD v).2,aPM,aPM];refine⟨_,_,_,_,_,_,_,_,_,_,_,rfl,rfl,⟨h.c,h.f,h.d,?_,?_,h.g1,h.g1t,h.g1n,h.g2,h.g2t,h.g2n⟩,?_⟩
    ·rw[DL,if_neg (by decide)];exact h.o5
    ·rw[DL,if_pos rfl]
    ·rw[DL,if_neg (by decide)]
  ·have hp:rQ 5 k v false=(0,[],[]):=by
    show (if 0<=vW v then((6:Int),([]:List UInt8),v) else(0,[],[]))=_;rw[if_neg hst]
   refine .inl ⟨by rw[hp],(src,cm,s5 fl,st,fd,hs,ht,3),?_,?_⟩
   ·unfold tM;dsimp only;rw[if_neg (show¬decide ((5:Int)=2)=true by decide),if_neg (show¬decide ((5:Int)=4)=true by decide),if_pos (show decide ((5:Int)=5)=true from rfl),U1,if_pos uA,B5,Bool.false_or,if_pos (show decide (vW v<0)=true by simp;omega)]
   ·rfl
include hv
theorem aLF:JB cm fl fd once fm dm hs ht src x1 x2 a1 a2 a3 st op op' 6 k v bad:=by
 have hfv:pK v:=by unfold pK;omega
 have hff:=h.f;cases bad with
 |true=>exact .inl ⟨rfl,(src,cm,s5 fl,st,fd,hs,ht,3),by unfold tM;dsimp only;rw[if_neg (show¬decide ((6:Int)=2)=true by decide),if_neg (show¬decide ((6:Int)=4)=true by decide),if_neg (show¬decide ((6:Int)=5)=true by decide),if_pos (show decide ((6:Int)=6)=true from rfl),if_pos (fun hh=>by cases hh)];rfl,rfl⟩
 |false=>
  cases hN:sC v with
  |true=>
   have hp:rQ 6 k v false=(7,[],v):=by
    show (if sC v=true then((7:Int),([]:List UInt8),v) else(0,[],[]))=_;rw[if_pos hN]
   refine .inr ⟨by rw[hp];rfl,?_⟩;rw[hp];unfold tM tQ;dsimp only;have hfl:pK (s5 fl):=by unfold pK;rw[M0];omega
   rw[if_neg (show¬decide ((6:Int)=2)=true by decide),if_neg (show¬decide ((6:Int)=4)=true by decide),if_neg (show¬decide ((6:Int)=5)=true by decide),if_pos (show decide ((6:Int)=6)=true from rfl),DE v hfv,if_pos uA,B5,hN,if_neg (show¬(false|| !true)=true by decide),a6o _ _ hfl,aPM,aK9,M0]
   rw[if_neg (show¬decide ((7:Int)=3)=true by decide),if_neg (show¬decide ((7:Int)=4)=true by decide),if_neg (show¬decide ((7:Int)=5)=true by decide)];unfold rC;rw[aPM,if_neg (show¬decide ((7:Int)=6)=true by decide),if_pos (show decide ((7:Int)=7)=true from rfl),h.g1,h.g1n];by_cases ha:(fl.any fun y=>decide (y=v))=true
   ·rw[if_pos ha,if_pos ha];exact⟨_,_,_,_,_,_,_,_,_,_,_,rfl,rfl,h,rfl⟩
   ·rw[if_neg ha,if_neg ha];by_cases h20:fl.length=20
    ·rw[if_pos (by simp;omega),if_pos (by simp;omega)];exact⟨_,_,_,_,_,_,_,_,_,_,_,rfl,rfl,h,rfl⟩
    ·rw[if_neg (show¬decide ((fl.length:Int)=20)=true by simp;omega),if_pos (by simp only[aPR,aPZ];omega),if_neg (show¬decide ((20:Int)<=(fl.length:Int))=true by simp;omega),a6p hfl,aPM,aLc];have hg:sD .str .bool fm v=false:=by rw[h.g1];exact UH ha
     have hadd:=aEq h.g1t hg;refine⟨_,_,_,_,_,_,_,_,_,_,_,rfl,rfl,⟨h.c,by simp;omega,h.d,h.o5,h.o6,fun x=> ?_,hadd.1,by rw[hadd.2,h.g1n];simp,h.g2,h.g2t,h.g2n⟩,rfl⟩;rw[UC,h.g1,List.any_append];by_cases hx:x=v
     ·rw[if_pos hx,hx];simp
     ·rw[if_neg hx];have:decide (v=x)=false:=decide_eq_false fun hh=>hx hh.symm;simp [this]
  |false=>
   have hp:rQ 6 k v false=(0,[],[]):=by
    show (if sC v=true then((7:Int),([]:List UInt8),v) else(0,[],[]))=_;rw[if_neg (by rw[hN];exact aQr)]
   refine .inl ⟨by rw[hp],(src,cm,s5 fl,st,fd,hs,ht,3),?_,?_⟩
   ·unfold tM;dsimp only;rw[if_neg (show¬decide ((6:Int)=2)=true by decide),if_neg (show¬decide ((6:Int)=4)=true by decide),if_neg (show¬decide ((6:Int)=5)=true by decide),if_pos (show decide ((6:Int)=6)=true from rfl),DE v hfv,if_pos uA,B5,hN,if_pos (show (false|| !false)=true by decide)]
   ·rfl
omit hv
include hk
theorem aEt:JB cm fl fd once fm dm hs ht src x1 x2 a1 a2 a3 st op op' 7 k v bad:=by
 have hfk:pK k:=by unfold pK;omega
 have hfd:=h.d;have hfit:pK fd:=by unfold pK;omega
 cases bad with
 |true=>exact .inl ⟨rfl,(src,cm,s5 fl,st,fd,hs,ht,3),by unfold tM;dsimp only;rw[if_neg (show¬decide ((7:Int)=2)=true by decide),if_neg (show¬decide ((7:Int)=4)=true by decide),if_neg (show¬decide ((7:Int)=5)=true by decide),if_neg (show¬decide ((7:Int)=6)=true by decide),if_pos (show decide ((7:Int)=7)=true from rfl),if_pos (fun hh=>by cases hh)];rfl,rfl⟩
 |false=>
  cases hN:sC k with
  |true=>
   have hp:rQ 7 k v false=(8,k,v):=by
    show (if sC k=true then((8:Int),k,v) else(0,[],[]))=_;rw[if_pos hN]
   refine .inr ⟨by rw[hp];rfl,?_⟩;rw[hp];unfold tM tQ;dsimp only;rw[if_neg (show¬decide ((7:Int)=2)=true by decide),if_neg (show¬decide ((7:Int)=4)=true by decide),if_neg (show¬decide ((7:Int)=5)=true by decide),if_neg (show¬decide ((7:Int)=6)=true by decide),if_pos (show decide ((7:Int)=7)=true from rfl),DE k hfk,if_pos uA,B5,hN,if_neg (show¬(false|| !true)=true by decide),a5Q _ _ hfit,aPM,a5P]
   rw[if_neg (show¬decide ((8:Int)=3)=true by decide),if_neg (show¬decide ((8:Int)=4)=true by decide),if_neg (show¬decide ((8:Int)=5)=true by decide)];unfold rC;rw[aPM,if_neg (show¬decide ((8:Int)=6)=true by decide),if_neg (show¬decide ((8:Int)=7)=true by decide),if_pos (show decide ((8:Int)=8)=true from rfl),h.g2,h.g2n];by_cases ha:(fd.any fun y=>decide (y.1=k))=true
   ·rw[if_pos ha,if_pos ha];exact⟨_,_,_,_,_,_,_,_,_,_,_,rfl,rfl,h,rfl⟩
   ·rw[if_neg ha,if_neg ha];by_cases h20:fd.length=20
    ·rw[if_pos (by simp;omega),if_pos (by simp;omega)];exact⟨_,_,_,_,_,_,_,_,_,_,_,rfl,rfl,h,rfl⟩
    ·rw[if_neg (by simp;omega),if_neg (by simp;omega),a5R _ _ _ hfit,aKn _ _ _ hfit,aPM,aPM];have hg:sD .str .bool dm k=false:=by rw[h.g2];exact UH ha
     have hadd:=aEq h.g2t hg;have hset:=aLC (v:=v) (UH ha);refine⟨_,_,_,_,_,_,_,_,_,_,_,rfl,rfl,⟨h.c,h.f,by rw[hset.1];omega,h.o5,h.o6,h.g1,h.g1t,h.g1n,fun x=> ?_,hadd.1,by rw[hadd.2,h.g2n,hset.1]⟩,rfl⟩;rw[UC,h.g2,hset.2 x];by_cases hx:x=k
     ·rw[if_pos hx,hx];simp
     ·rw[if_neg hx,decide_eq_false fun hh=>hx hh.symm,Bool.false_or]
  |false=>
   have hp:rQ 7 k v false=(0,[],[]):=by
    show (if sC k=true then((8:Int),k,v) else(0,[],[]))=_;rw[if_neg (by rw[hN];exact aQr)]
   refine .inl ⟨by rw[hp],(src,cm,s5 fl,st,fd,hs,ht,3),?_,?_⟩
   ·unfold tM;dsimp only;rw[if_neg (show¬decide ((7:Int)=2)=true by decide),if_neg (show¬decide ((7:Int)=4)=true by decide),if_neg (show¬decide ((7:Int)=5)=true by decide),if_neg (show¬decide ((7:Int)=6)=true by decide),if_pos (show decide ((7:Int)=7)=true from rfl),DE k hfk,if_pos uA,B5,hN,if_pos (show (false|| !false)=true by decide)]
   ·rfl
end
abbrev PS:=(List UInt8)×(List (List UInt8))×(List pP)×(List qS)×Bool×(List Int)×(List (List UInt8))×(List UInt8)×(List UInt8)×(List UInt8)×(List (List UInt8))×Int×(List pP)×Int×(List ((List UInt8)×Bool))×(List (Int×Bool))×(List ((List UInt8)×Bool))×(List ((List UInt8)×Bool))×(List (List UInt8))
def zF (tag:List UInt8) (cms:List (List UInt8)) (fds:List qU) (es:List qS) (inside:Bool) (ends:List Int) (cm:List (List UInt8)) (src:List UInt8) (st:Int) (fd:List qU) (op:Int) (ids:List (List UInt8×Bool)) (once:List (Int×Bool)) (fm dm:List (List UInt8×Bool)) (fl:List (List UInt8)):PS:=
  (tag,cms,fds,es,inside,ends,cm,[],src,[],[],st,fd,op,ids,once,fm,dm,fl)
abbrev RS:=(List Int)×Int×Int×(List UInt8)×(List (List UInt8))×(List pP)×(List qS)×(List UInt8)×(List UInt8)×(List UInt8)×(List (List UInt8))×(List (List UInt8))×Int×(List pP)×Bool×Bool×Int
noncomputable def F9 (it:Int×List UInt8) (b:PS):Option (Int×PS):=
 (BD it.2 ([10]:List UInt8)).bind fun r1=>
 (A0 (Lib.trimLeftS r1 ([32,9]:List UInt8))).bind fun r=>
 if b.2.2.2.2.1=true then
  if pA (it.1+(it.2.length:Int)) then
   (tT (b.1,(b.2.1,(b.2.2.1,(b.2.2.2.1,())))) b.2.2.2.2.1 (b.2.2.2.2.2.1,()) (r.1,(r.2.1,(r.2.2,()))) it.1 (it.1+(it.2.length:Int)) b.2.2.2.2.2.2.1 b.2.2.2.2.2.2.2.1 b.2.2.2.2.2.2.2.2.1 b.2.2.2.2.2.2.2.2.2.1 b.2.2.2.2.2.2.2.2.2.2.1 (b.2.2.2.2.2.2.2.2.2.2.2.1,(b.2.2.2.2.2.2.2.2.2.2.2.2.1,())) (b.2.2.2.2.2.2.2.2.2.2.2.2.2.1,()) b.2.2.2.2.2.2.2.2.2.2.2.2.2.2.1 b.2.2.2.2.2.2.2.2.2.2.2.2.2.2.2.1 b.2.2.2.2.2.2.2.2.2.2.2.2.2.2.2.2.1 b.2.2.2.2.2.2.2.2.2.2.2.2.2.2.2.2.2.1 b.2.2.2.2.2.2.2.2.2.2.2.2.2.2.2.2.2.2).bind fun r=>
   some ((r.1,b.1,b.2.1,b.2.2.1,r.2.1,b.2.2.2.2.1,r.2.2.1,r.2.2.2.2.1,r.2.2.2.2.2.1,r.2.2.2.2.2.2.1,r.2.2.2.2.2.2.2.1,r.2.2.2.2.2.2.2.2.1,r.2.2.2.2.2.2.2.2.2.1,r.2.2.2.2.2.2.2.2.2.2.1,r.2.2.2.2.2.2.2.2.2.2.2.1,r.2.2.2.1,r.2.2.2.2.2.2.2.2.2.2.2.2.1,r.2.2.2.2.2.2.2.2.2.2.2.2.2.1,r.2.2.2.2.2.2.2.2.2.2.2.2.2.2.1,r.2.2.2.2.2.2.2.2.2.2.2.2.2.2.2))
  else none
 else
  if pA (it.1+(it.2.length:Int)) then
   (sU (b.1,(b.2.1,(b.2.2.1,(b.2.2.2.1,())))) b.2.2.2.2.1 (b.2.2.2.2.2.1,()) (r.1,(r.2.1,(r.2.2,()))) (it.1+(it.2.length:Int)) b.2.2.2.2.2.2.1 b.2.2.2.2.2.2.2.1 b.2.2.2.2.2.2.2.2.1 b.2.2.2.2.2.2.2.2.2.1 b.2.2.2.2.2.2.2.2.2.2.1 (b.2.2.2.2.2.2.2.2.2.2.2.1,(b.2.2.2.2.2.2.2.2.2.2.2.2.1,())) (b.2.2.2.2.2.2.2.2.2.2.2.2.2.1,()) b.2.2.2.2.2.2.2.2.2.2.2.2.2.2.1 b.2.2.2.2.2.2.2.2.2.2.2.2.2.2.2.1 b.2.2.2.2.2.2.2.2.2.2.2.2.2.2.2.2.1 b.2.2.2.2.2.2.2.2.2.2.2.2.2.2.2.2.2.1 b.2.2.2.2.2.2.2.2.2.2.2.2.2.2.2.2.2.2).bind fun r=>
   some ((r.1,r.2.1,r.2.2.1,r.2.2.2.1,b.2.2.2.1,r.2.2.2.2.1,r.2.2.2.2.2.1,r.2.2.2.2.2.2.1,r.2.2.2.2.2.2.2.1,r.2.2.2.2.2.2.2.2.1,r.2.2.2.2.2.2.2.2.2.1,r.2.2.2.2.2.2.2.2.2.2.1,r.2.2.2.2.2.2.2.2.2.2.2.1,r.2.2.2.2.2.2.2.2.2.2.2.2.1,r.2.2.2.2.2.2.2.2.2.2.2.2.2.1,b.2.2.2.2.2.2.2.2.2.2.2.2.2.2.1,r.2.2.2.2.2.2.2.2.2.2.2.2.2.2.1,r.2.2.2.2.2.2.2.2.2.2.2.2.2.2.2.1,r.2.2.2.2.2.2.2.2.2.2.2.2.2.2.2.2.1,r.2.2.2.2.2.2.2.2.2.2.2.2.2.2.2.2.2))
  else none
theorem aEu (it:Int×List UInt8) (b:PS):GU it b=(F9 it b).bind fun q=>if (!decide (q.1=(0:Int)))=true then none else some (.inl q.2):=by
  unfold GU F9 rC;obtain⟨b1,b2,b3,b4,b5,b6,b7,b8,b9,b10,b11,b12,b13,b14,H4,b16,b17,b18,b19⟩:=b;dsimp only;cases BD it.2 [10] with
  |none=>rfl
  | some r1=>
    rw[aPM,aPM];cases A0 (Lib.trimLeftS r1 [32,9]) with
    |none=>rfl
    |some r=>rfl
theorem aEv (it:Int×List UInt8) (b:PS):GV it b=(F9 it b).bind fun q=>if (!decide (q.1=(0:Int)))=true then some (.inr (it.1,q.1)) else some (.inl q.2):=by
  unfold GV F9 rC;obtain⟨b1,b2,b3,b4,b5,b6,b7,b8,b9,b10,b11,b12,b13,b14,H4,b16,b17,b18,b19⟩:=b;dsimp only;cases BD it.2 [10] with
  |none=>rfl
  | some r1=>
    rw[aPM,aPM];cases A0 (Lib.trimLeftS r1 [32,9]) with
    |none=>rfl
    |some r=>rfl
noncomputable def uH (b:RS) (r:Int×List UInt8×List UInt8×Bool):Option (Int×Bool×(List UInt8)×(List (List UInt8))×(List pP)×(List qS)×(List UInt8)×(List UInt8)×(List UInt8)×(List (List UInt8))×(List (List UInt8))×Int×(List pP)×Bool×Bool×Int):=
  match b with
  |(O,Z,_,aA,aB,aC,aD,aE,aF,aG,aH,aI,aJ,aK,aL,aM,aN)=>
       if (decide ((O.length:Int)=(0:Int)))=true then
        (xK (aA,(aB,(aC,(aD,())))) ((aE,(aF,(aG,(aH,(aI,(aJ,(aK,()))))))),(aL,(aM,(aN,())))) (r.1,(r.2.1,(r.2.2.1,(r.2.2.2,()))))).bind fun aO=>
        some ((aO.2.2.2.2.2.2.2.2.2.2.2.2.2.2,aO.2.2.2.2.2.2.2.2.2.2.2.2.2.1,aO.1,aO.2.1,aO.2.2.1,aD,aO.2.2.2.1,aO.2.2.2.2.1,aO.2.2.2.2.2.1,aO.2.2.2.2.2.2.1,aO.2.2.2.2.2.2.2.1,aO.2.2.2.2.2.2.2.2.1,aO.2.2.2.2.2.2.2.2.2.1,aO.2.2.2.2.2.2.2.2.2.2.1,aO.2.2.2.2.2.2.2.2.2.2.2.1,aO.2.2.2.2.2.2.2.2.2.2.2.2.1))
       else
        if (decide (r.1=(9:Int)))=true then
         (EH (aA,(aB,(aC,(aD,())))) ((aE,(aF,(aG,(aH,(aI,(aJ,(aK,()))))))),(aL,(aM,(aN,())))) (r.1,(r.2.1,(r.2.2.1,(r.2.2.2,()))))).bind fun aP=>
         some ((aP.2,true,aA,aB,aC,aP.1,([]:List UInt8),([]:List UInt8),([]:List UInt8),([]:List (List UInt8)),([]:List (List UInt8)),(0:Int),([]:List pP),false,false,(-1:Int)))
        else
         if (((decide ((2:Int)≤r.1))&&(decide (r.1≤(7:Int))))&&(!decide (r.1=(3:Int))))=true then
          (tM ((aE,(aF,(aG,(aH,(aI,(aJ,(aK,()))))))),(aL,(aM,(aN,())))) (r.1,(r.2.1,(r.2.2.1,(r.2.2.2,()))))).bind fun aQ=>
          if (decide (aN<(0:Int)))=true then
           some ((aQ.2.2.2.2.2.2.2,false,aA,aB,aC,aD,aE,aQ.1,aG,aQ.2.1,aQ.2.2.1,aQ.2.2.2.1,aQ.2.2.2.2.1,aQ.2.2.2.2.2.1,aQ.2.2.2.2.2.2.1,Z))
          else
           some ((aQ.2.2.2.2.2.2.2,false,aA,aB,aC,aD,aE,aQ.1,aG,aQ.2.1,aQ.2.2.1,aQ.2.2.2.1,aQ.2.2.2.2.1,aQ.2.2.2.2.2.1,aQ.2.2.2.2.2.2.1,aN))
         else
          if (decide ((1:Int)<r.1))=true then
           some (((3:Int),false,aA,aB,aC,aD,aE,aF,aG,aH,aI,aJ,aK,aL,aM,aN))
          else
           some (((0:Int),false,aA,aB,aC,aD,aE,aF,aG,aH,aI,aJ,aK,aL,aM,aN))
theorem aEw {ls:List (List UInt8)}{b:RS}{i:Nat}(hi:b.2.2.1=(i:Int)) (hlt:i<ls.length) (h1:i≤4000000000) (h2:pA (b.2.1+(List.length ls[i]:Int))):xL ls b=(uQ ls[i]).bind fun q=>(uH b q).bind fun r=>
     if (!decide (r.1=(0:Int)))=true then
      some (.inr (.inr ((([]:List UInt8),([]:List (List UInt8)),([]:List pP),([]:List qS),([]:List Int),b.2.1,r.1))))
     else
      if r.2.1=true then
       if (b.1.length+1)*8≤140737488355328 then
         some (.inl ((b.1++([(b.2.1+(List.length ls[i]:Int))]:List Int)),(b.2.1+(List.length ls[i]:Int)),((i:Int)+1),r.2.2))
       else none
      else
        some (.inl (b.1,(b.2.1+(List.length ls[i]:Int)),((i:Int)+1),r.2.2)):=by
  obtain⟨b1,b2,b3,b4,b5,b6,b7,b8,b9,b10,b11,b12,b13,b14,H4,b16,b17⟩:=b;dsimp only at hi h2;subst hi;unfold xL rC;dsimp only;rw[if_pos (sQ hlt),if_pos (rO hlt),xB (t:= .str) hlt];cases uQ ls[i] with
  |none=>rfl
  | some q=>
    rw[aPM,aPM,if_pos (rO hlt),if_pos h2];unfold uH;dsimp only;refine aQk (Option.bind _) (funext fun r=> ?_);obtain⟨r1,r2,r3,r4,r5,r6,r7,r8,r9,r10,r11,r12,r13,r14,r15,r16⟩:=r;dsimp only;rw[if_pos (sJ h1),if_pos (sJ h1)];rfl
structure SI (tag:List UInt8) (cms:List (List UInt8)) (fds:List qU) (es:List qS) (ends:List Int) (cm:List (List UInt8)) (fl:List (List UInt8)) (fd:List qU) (ids:List (List UInt8×Bool)) (once:List (Int×Bool)) (fm dm:List (List UInt8×Bool)) (hs ht:Bool):Prop where
  b:BI cm fl fd once fm dm hs ht
  tg:ends=[]→sD (.int .i64) .bool once 4= !decide (tag=[])
  id:UF ids es
  en:es.length≤1000
  ef: ∀y∈es,M1 y
  cf:pK cms
  ff:pK fds
section
variable {cm:List (List UInt8)}{fl:List (List UInt8)}{fd:List qU}{once:List (Int×Bool)}{fm dm:List (List UInt8×Bool)}{src a1 a2 q1 q2:List UInt8}{a3:List (List UInt8)}{st op:Int}
theorem aEx {pf:Int}(h:pf=1∨pf=2):tQ cm a1 src a2 a3 (st,(fd,())) (op,()) (pf,(q1,(q2,()))) once fm dm fl=some (0,cm,src,st,fd,once,fm,dm,fl):=by
  unfold tQ;rcases h with rfl|rfl<;>simp only[rC,aPM,aPQ,Int.reduceEq,↓reduceIte]
theorem aLG:tQ cm a1 src a2 a3 (st,(fd,())) (op,()) (4,(q1,(q2,()))) once fm dm fl=some (if sD (.int .i64) .bool once 4=true then(9,cm,src,st,fd,once,fm,dm,fl) else(0,cm,src,st,fd,uK (.int .i64) .bool 4 true once,fm,dm,fl)):=by
  unfold tQ;simp only[rC,aPM,aPQ,Int.reduceEq,↓reduceIte];by_cases h:sD (.int .i64) .bool once 4=true
  ·rw[if_pos h,if_pos h]
  ·rw[if_neg h,if_neg h]
end
theorem aEy {v:List UInt8}(h:uD v=true):v≠[]:=by
  rintro rfl;exact absurd h (by decide)
section
variable {tag:List UInt8}{cms:List (List UInt8)}{fds:List qU}{es:List qS}{cm:List (List UInt8)}{fl:List (List UInt8)}{fd:List qU}{ids:List (List UInt8×Bool)}{once:List (Int×Bool)}{fm dm:List (List UInt8×Bool)}{hs ht:Bool}
variable {src:List UInt8}{st op tz:Int}{f:Int}{k v:List UInt8}{bad:Bool}
abbrev RP:=Int×(List UInt8)×(List (List UInt8))×(List pP)×Bool×(List Int)×(List (List UInt8))×(List UInt8)×(List UInt8)×(List UInt8)×(List (List UInt8))×Int×(List pP)×Int×(List (Int×Bool))×(List ((List UInt8)×Bool))×(List ((List UInt8)×Bool))×(List (List UInt8))
abbrev RR:=(List UInt8)×(List (List UInt8))×(List pP)×(List UInt8)×(List UInt8)×(List UInt8)×(List (List UInt8))×(List (List UInt8))×Int×(List pP)×Bool×Bool×Int×Bool×Int
def aLH (es:List qS) (ids:List (List UInt8×Bool)) (tz:Int) (rp:RP) (rr:RR):Prop:=
  ∃ tag' cms' fds' cm' src' st' fd' op' once' fm' dm' fl' hs' ht' dn,rp=(0,tag',cms',fds',dn,(if dn=true then[tz] else[]),cm',[],src',[],[],st',fd',op',once',fm',dm',fl')∧
    rr=(tag',cms',fds',[],src',[],cm',s5 fl',st',fd',hs',ht',op',dn,0)∧SI tag' cms' fds' es (if dn=true then[tz] else[]) cm' fl' fd' ids once' fm' dm' hs' ht'
def FA (tag:List UInt8) (cms:List (List UInt8)) (fds:List qU) (es:List qS) (cm:List (List UInt8)) (fl:List (List UInt8)) (fd:List qU) (ids:List (List UInt8×Bool)) (once:List (Int×Bool)) (fm dm:List (List UInt8×Bool)) (hs ht:Bool) (src:List UInt8) (st op tz f:Int) (k v:List UInt8) (bad:Bool):Prop:=
  ∃ rp rr,sU (tag,(cms,(fds,(es,())))) false ([],()) ((rQ f k v bad).1,((rQ f k v bad).2.1,((rQ f k v bad).2.2,()))) tz cm [] src [] [] (st,(fd,())) (op,()) ids once fm dm fl=some rp∧
    xK (tag,(cms,(fds,(es,())))) (([],(src,([],(cm,(s5 fl,(st,(fd,()))))))),(hs,(ht,(op,())))) (f,(k,(v,(bad,()))))=some rr∧
    ((rp.1≠0∧rr.2.2.2.2.2.2.2.2.2.2.2.2.2.2=rp.1)∨aLH es ids tz rp rr)
variable (h:SI tag cms fds es [] cm fl fd ids once fm dm hs ht)
include h
theorem JC (hp:(rQ f k v bad).1=0∨(rQ f k v bad).1=5∨(rQ f k v bad).1=6∨(rQ f k v bad).1=7∨(rQ f k v bad).1=10) (hr: ∃rr,xK (tag,(cms,(fds,(es,())))) (([],(src,([],(cm,(s5 fl,(st,(fd,()))))))),(hs,(ht,(op,())))) (f,(k,(v,(bad,()))))=some rr∧rr.2.2.2.2.2.2.2.2.2.2.2.2.2.2=3):FA tag cms fds es cm fl fd ids once fm dm hs ht src st op tz f k v bad:=by
  obtain⟨rr,h1,h2⟩:=hr;refine⟨(3,tag,cms,fds,false,[],cm,[],src,[],[],st,fd,op,once,fm,dm,fl),rr,?_,h1,.inl ⟨?_,?_⟩⟩
  · unfold sU
    generalize (rQ f k v bad).1=pf at hp;rcases hp with rfl|rfl|rfl|rfl|rfl<;>simp only[rC,aPM,aPQ,Int.reduceEq,↓reduceIte]
  · show (3:Int)≠0
    decide
  ·exact h2
theorem aEz (hf:f=0∨f=1):FA tag cms fds es cm fl fd ids once fm dm hs ht src st op tz f k v bad:=by
  unfold FA sU xK;have h1: ∀{q1 q2:List UInt8},tQ cm [] src [] [] (st,(fd,())) (op,()) (1,(q1,(q2,()))) once fm dm fl=some (0,cm,src,st,fd,once,fm,dm,fl):=aEx (.inl rfl);have h2: ∀{q1 q2:List UInt8},tQ cm [] src [] [] (st,(fd,())) (op,()) (2,(q1,(q2,()))) once fm dm fl=some (0,cm,src,st,fd,once,fm,dm,fl):=aEx (.inr rfl);rcases hf with rfl|rfl
  · rw[show rQ 0 k v bad=(1,[],[]) from rfl]
    simp only[rC,aPM,aPQ,Int.reduceEq,↓reduceIte,h1];exact⟨_,_,rfl,rfl,.inr ⟨tag,cms,fds,cm,src,st,fd,op,once,fm,dm,fl,hs,ht,false,rfl,rfl,h⟩⟩
  · rw[show rQ 1 k v bad=(2,[],[]) from rfl]
    simp only[rC,aPM,aPQ,Int.reduceEq,↓reduceIte,h2];exact⟨_,_,rfl,rfl,.inr ⟨tag,cms,fds,cm,src,st,fd,op,once,fm,dm,fl,hs,ht,false,rfl,rfl,h⟩⟩
theorem aEA (hf:f=2∨f=7) (hk:k.length≤4000000000):FA tag cms fds es cm fl fd ids once fm dm hs ht src st op tz f k v bad:=by
  have hA:JB cm fl fd once fm dm hs ht src [] [] [] [] [] st op op f k v bad:=by
    rcases hf with rfl|rfl
    ·exact aEs h.b
    ·exact aEt h.b hk
  have hr: ∀r,tM (([],(src,([],(cm,(s5 fl,(st,(fd,()))))))),(hs,(ht,(op,())))) (f,(k,(v,(bad,()))))=some r→xK (tag,(cms,(fds,(es,())))) (([],(src,([],(cm,(s5 fl,(st,(fd,()))))))),(hs,(ht,(op,())))) (f,(k,(v,(bad,()))))=some (tag,cms,fds,[],r.1,[],r.2.1,r.2.2.1,r.2.2.2.1,r.2.2.2.2.1,r.2.2.2.2.2.1,r.2.2.2.2.2.2.1,op,false,r.2.2.2.2.2.2.2):=by
    intro r hr;unfold xK;rcases hf with rfl|rfl<;>simp only[rC,aPM,aPQ,Int.reduceEq,↓reduceIte,hr]
  rcases hA with⟨h0,r,h1,h2⟩ |⟨hp,e,cm',src',st',fd',once',fm',dm',fl',hs',ht',h1,h2,h3,h4⟩
  ·exact JC h (.inl h0) ⟨_,hr r h1,h2⟩
  · refine⟨(e,tag,cms,fds,false,[],cm',[],src',[],[],st',fd',op,once',fm',dm',fl'),_,?_,hr _ h2,?_⟩
    · unfold sU
      dsimp only;rw[h1];rcases hf with rfl|rfl<;>rw[hp]<;>simp only[rC,aPM,aPQ,Int.reduceEq,Int.reduceAdd,↓reduceIte]
    · by_cases he:e=0
      · subst he
        exact .inr ⟨tag,cms,fds,cm',src',st',fd',op,once',fm',dm',fl',hs',ht',false,rfl,rfl,⟨h3,fun _=>by rw[h4];exact h.tg rfl,h.id,h.en,h.ef,h.cf,h.ff⟩⟩
      ·exact .inl ⟨he,rfl⟩
theorem aLI (hv:v.length≤4000000000):FA tag cms fds es cm fl fd ids once fm dm hs ht src st op tz 3 k v bad:=by
  have hfv:pK v:=by unfold pK;omega
  by_cases hb:bad=true∨uD v=false
  · refine JC h (.inl ?_) ?_
    · rcases hb with rfl|hb
      ·rfl
      · cases bad with
        |true=>rfl
        | false=>
          show (if uD v=true then((4:Int),([]:List UInt8),v) else(0,[],[])).1=0;rw[if_neg (by rw[hb];exact aQr)]
    · unfold xK
      simp only[rC,aPM,aPQ,Int.reduceEq,↓reduceIte];rw[P9 v hfv,if_pos uA,B5,if_pos (by rcases hb with rfl|hb;rfl;rw[hb];simp)]
      exact⟨_,rfl,rfl⟩
  · have hb1:bad=false:=by cases bad;rfl;exact absurd (.inl rfl) hb
    have hb2:uD v=true:=by cases ht2:uD v;exact absurd (.inr ht2) hb;rfl
    subst hb1
    have hp:rQ 3 k v false=(4,[],v):=by
      show (if uD v=true then((4:Int),([]:List UInt8),v) else(0,[],[]))=_;rw[if_pos hb2]
    have htg:=h.tg rfl;have hat: ∀{q1 q2:List UInt8},tQ cm [] src [] [] (st,(fd,())) (op,()) (4,(q1,(q2,()))) once fm dm fl=_:=aLG;unfold FA sU xK;rw[hp];simp only[rC,aPM,aPQ,Int.reduceEq,↓reduceIte,hat];rw[P9 v hfv,if_pos uA,B5,if_neg (show¬(false|| !uD v)=true by rw[hb2];decide),htg]
    by_cases ht0:tag=[]
    · rw[aQD ht0]
      simp only[Bool.not_true,Bool.not_false,aQG,↓reduceIte,aPM];refine⟨_,_,rfl,rfl,.inr ⟨v,cms,fds,cm,src,st,fd,op,_,fm,dm,fl,hs,ht,false,rfl,rfl,⟨⟨h.b.c,h.b.f,h.b.d,?_,?_,h.b.g1,h.b.g1t,h.b.g1n,h.b.g2,h.b.g2t,h.b.g2n⟩,fun _=> ?_,h.id,h.en,h.ef,h.cf,h.ff⟩⟩⟩
      ·rw[DL,if_neg (by decide)];exact h.b.o5
      ·rw[DL,if_neg (by decide)];exact h.b.o6
      · rw[DL,if_pos rfl,decide_eq_false (aEy hb2)]
        rfl
    · rw[decide_eq_false ht0]
      simp only[Bool.not_true,Bool.not_false,aQG,↓reduceIte,aPM];exact⟨_,_,rfl,rfl,.inl ⟨(show (9:Int)≠0 by decide),rfl⟩⟩
theorem aLJ:FA tag cms fds es cm fl fd ids once fm dm hs ht src st op tz 8 k v bad:=by
  have htg:=h.tg rfl;unfold FA sU xK;rw[show rQ 8 k v bad=(9,[],[]) from rfl];simp only[rC,aPM,aPQ,Int.reduceEq,↓reduceIte];rw[htg];by_cases ht0:tag=[]
  · rw[aQD ht0,if_pos ht0]
    exact⟨_,_,rfl,rfl,.inl ⟨(show (3:Int)≠0 by decide),rfl⟩⟩
  · rw[decide_eq_false ht0,if_neg ht0]
    simp only[Bool.not_false,Bool.not_true,aQG,↓reduceIte,aPZ,aPR,List.nil_append];have hc:=h.b.c;have hd:=h.b.d;exact⟨_,_,rfl,rfl,.inr ⟨tag,cm,fd,[],[],0,[],-1,[],[],[],[],false,false,true,rfl,by rw[show s5 []=[] from aQJ.1 (M0 [])],⟨a6n,fun hh=>(by cases hh),h.id,h.en,h.ef,by unfold pK;omega,by unfold pK;omega⟩⟩⟩
theorem aLK (hf0:0≤f) (hf:f≤10) (hk:k.length≤4000000000) (hv:v.length≤4000000000):FA tag cms fds es cm fl fd ids once fm dm hs ht src st op tz f k v bad:=by
  have:f=0∨f=1∨f=2∨f=3∨f=4∨f=5∨f=6∨f=7∨f=8∨f=9∨f=10:=by omega
  have hr:(f=4∨f=5∨f=6∨f=9∨f=10)→∃rr,xK (tag,(cms,(fds,(es,())))) (([],(src,([],(cm,(s5 fl,(st,(fd,()))))))),(hs,(ht,(op,())))) (f,(k,(v,(bad,()))))=some rr∧rr.2.2.2.2.2.2.2.2.2.2.2.2.2.2=3:=by
    intro hh;unfold xK;rcases hh with rfl|rfl|rfl|rfl|rfl<;>simp only[rC,aPM,aPQ,Int.reduceEq,↓reduceIte]<;>exact⟨_,rfl,rfl⟩
  rcases this with rfl|rfl|rfl|rfl|rfl|rfl|rfl|rfl|rfl|rfl|rfl
  ·exact aEz h (.inl rfl)
  ·exact aEz h (.inr rfl)
  ·exact aEA h (.inl rfl) hk
  ·exact aLI h hv
  · refine JC h ?_ (hr (.inl rfl))
    cases bad
    ·exact .inr (.inl rfl)
    ·exact .inl rfl
  · refine JC h ?_ (hr (.inr (.inl rfl)))
    cases bad
    · rw[show rQ 5 k v false=(if 0≤vW v then((6:Int),([]:List UInt8),v) else(0,[],[])) from rfl]
      split
      ·exact .inr (.inr (.inl rfl))
      ·exact .inl rfl
    ·exact .inl rfl
  · refine JC h ?_ (hr (.inr (.inr (.inl rfl))))
    cases bad
    · rw[show rQ 6 k v false=(if sC v=true then((7:Int),([]:List UInt8),v) else(0,[],[])) from rfl]
      split
      ·exact .inr (.inr (.inr (.inl rfl)))
      ·exact .inl rfl
    ·exact .inl rfl
  ·exact aEA h (.inr rfl) hk
  ·exact aLJ h
  · refine JC h ?_ (hr (.inr (.inr (.inr (.inl rfl)))))
    cases bad
    · rw[aEi]
      split
      ·exact .inl rfl
      ·exact .inr (.inr (.inr (.inr rfl)))
    ·exact .inl rfl
  ·exact JC h (.inl (by rw[M5])) (hr (.inr (.inr (.inr (.inr rfl)))))
end
section
variable {tag:List UInt8}{cms:List (List UInt8)}{fds:List qU}{es:List qS}{ends:List Int}{cm:List (List UInt8)}{fl:List (List UInt8)}{fd:List qU}{ids:List (List UInt8×Bool)}{once:List (Int×Bool)}{fm dm:List (List UInt8×Bool)}{hs ht:Bool}
variable {src:List UInt8}{st op at0 idx tz:Int}{f:Int}{k v:List UInt8}{bad:Bool}
abbrev EP:=Int×(List qS)×(List Int)×(List ((List UInt8)×Bool))×(List (List UInt8))×(List UInt8)×(List UInt8)×(List UInt8)×(List (List UInt8))×Int×(List pP)×Int×(List (Int×Bool))×(List ((List UInt8)×Bool))×(List ((List UInt8)×Bool))×(List (List UInt8))
abbrev ER:=Int×Bool×(List UInt8)×(List (List UInt8))×(List pP)×(List qS)×(List UInt8)×(List UInt8)×(List UInt8)×(List (List UInt8))×(List (List UInt8))×Int×(List pP)×Bool×Bool×Int
def aLL (tag:List UInt8) (cms:List (List UInt8)) (fds:List qU) (ends:List Int) (tz:Int) (rp:EP) (rr:ER):Prop:=
 ∃es' ids' cm' src' st' fd' op' once' fm' dm' fl' hs' ht' dn,rp=(0,es',ends++(if dn=true then[tz] else[]),ids',cm',[],src',[],[],st',fd',op',once',fm',dm',fl')/\
  rr=(0,dn,tag,cms,fds,es',[],src',[],cm',s5 fl',st',fd',hs',ht',op')/\SI tag cms fds es' (ends++(if dn=true then[tz] else[])) cm' fl' fd' ids' once' fm' dm' hs' ht'
def JD (tag:List UInt8) (cms:List (List UInt8)) (fds:List qU) (es:List qS) (ends:List Int) (cm:List (List UInt8)) (fl:List (List UInt8)) (fd:List qU) (ids:List (List UInt8×Bool)) (once:List (Int×Bool)) (fm dm:List (List UInt8×Bool)) (hs ht:Bool) (src:List UInt8) (st op at0 idx tz f:Int) (k v:List UInt8) (bad:Bool):Prop:=
 ∃rp rr,tT (tag,(cms,(fds,(es,())))) true (ends,()) ((rQ f k v bad).1,((rQ f k v bad).2.1,((rQ f k v bad).2.2,()))) at0 tz cm [] src [] [] (st,(fd,())) (op,()) ids once fm dm fl=some rp/\
  uH (ends,at0,idx,tag,cms,fds,es,[],src,[],cm,s5 fl,st,fd,hs,ht,op) (f,k,v,bad)=some rr/\((rp.1≠0/\rr.1=rp.1)\/aLL tag cms fds ends tz rp rr)
variable (h:SI tag cms fds es ends cm fl fd ids once fm dm hs ht) (hne:ends≠[])
include h hne
theorem PJ (hp:(rQ f k v bad).1=0\/(rQ f k v bad).1=4\/(rQ f k v bad).1=9) (hr: ∃rr,uH (ends,at0,idx,tag,cms,fds,es,[],src,[],cm,s5 fl,st,fd,hs,ht,op) (f,k,v,bad)=some rr/\rr.1=3):JD tag cms fds es ends cm fl fd ids once fm dm hs ht src st op at0 idx tz f k v bad:=by
 obtain⟨rr,h1,h2⟩:=hr;refine⟨(3,es,ends,ids,cm,[],src,[],[],st,fd,op,once,fm,dm,fl),rr,?_,h1,.inl ⟨?_,?_⟩⟩
 ·unfold tT;generalize (rQ f k v bad).1=pf at hp;rcases hp with rfl|rfl|rfl<;>simp only[rC,aPM,aPQ,Int.reduceEq,↓reduceIte]
 ·show (3:Int)≠0;decide
 ·exact h2
omit h in
theorem JE: ¬decide ((ends.length:Int)=0)=true:=by
 have:ends.length≠0:=fun hh=>hne (aQJ.1 hh);simp only[aPQ];omega
theorem aEB (hf:f=0\/f=1):JD tag cms fds es ends cm fl fd ids once fm dm hs ht src st op at0 idx tz f k v bad:=by
 unfold JD tT uH;rcases hf with rfl|rfl
 ·rw[show rQ 0 k v bad=(1,[],[]) from rfl];dsimp only;rw[if_neg (JE hne)];simp only[rC,aPM,aPQ,Int.reduceEq,↓reduceIte];exact⟨_,_,rfl,rfl,.inr ⟨es,ids,cm,src,st,fd,op,once,fm,dm,fl,hs,ht,false,by simp,rfl,by simpa using h⟩⟩
 ·rw[show rQ 1 k v bad=(2,[],[]) from rfl];dsimp only;rw[if_neg (JE hne)];simp only[rC,aPM,aPQ,Int.reduceEq,↓reduceIte];exact⟨_,_,rfl,rfl,.inr ⟨es,ids,cm,src,st,fd,op,once,fm,dm,fl,hs,ht,false,by simp,rfl,by simpa using h⟩⟩
theorem PL (hf:f=2\/f=4\/f=5\/f=6\/f=7) (hk:k.length<=4000000000) (hv:v.length<=4000000000):JD tag cms fds es ends cm fl fd ids once fm dm hs ht src st op at0 idx tz f k v bad:=by
 have hA: ∀op1,JB cm fl fd once fm dm hs ht src [] [] [] [] [] st op1 op f k v bad:=by
  intro op1;rcases hf with rfl|rfl|rfl|rfl|rfl
  ·exact aEs h.b
  ·exact aLD h.b
  ·exact aLE h.b
  ·exact aLF h.b hv
  ·exact aEt h.b hk
 have hr: ∀r,tM (([],(src,([],(cm,(s5 fl,(st,(fd,()))))))),(hs,(ht,(op,())))) (f,(k,(v,(bad,()))))=some r->uH (ends,at0,idx,tag,cms,fds,es,[],src,[],cm,s5 fl,st,fd,hs,ht,op) (f,k,v,bad)=some (r.2.2.2.2.2.2.2,false,tag,cms,fds,es,[],r.1,[],r.2.1,r.2.2.1,r.2.2.2.1,r.2.2.2.2.1,r.2.2.2.2.2.1,r.2.2.2.2.2.2.1,if op<0 then at0 else op):=by
  intro r hr;unfold uH;dsimp only;rw[if_neg (JE hne),if_neg (by rcases hf with rfl|rfl|rfl|rfl|rfl<;>simp),if_pos (by rcases hf with rfl|rfl|rfl|rfl|rfl<;>simp),hr,aPM]
  by_cases ho:op<0
  ·rw[if_pos (by simpa using ho),if_pos ho]
  ·rw[if_neg (by simpa using ho),if_neg ho]
 rcases hA (if op<0 then at0 else op) with⟨h0,r,h1,h2⟩ |⟨hp,e,cm',src',st',fd',once',fm',dm',fl',hs',ht',h1,h2,h3,h4⟩
 ·exact PJ h hne (.inl h0) ⟨_,hr r h1,h2⟩
 ·refine⟨(e,es,ends,ids,cm',[],src',[],[],st',fd',(if op<0 then at0 else op),once',fm',dm',fl'),_,?_,hr _ h2,?_⟩
  ·have hpf: ¬((rQ f k v bad).1=0\/(rQ f k v bad).1=4\/(rQ f k v bad).1=9)/\¬((rQ f k v bad).1=1\/(rQ f k v bad).1=2)/\¬(rQ f k v bad).1=10:=by
    rw[hp];rcases hf with rfl|rfl|rfl|rfl|rfl<;>decide
   unfold tT;dsimp only;generalize (rQ f k v bad).1=pf at hpf h1;obtain⟨n1,n2,n3⟩:=hpf;simp only[not_or] at n1 n2;simp only[rC,aPM,aPQ,n1.1,n1.2.1,n1.2.2,n2.1,n2.2,n3,↓reduceIte];by_cases ho:op<0
   ·rw[if_pos ho] at h1⊢;rw[if_pos ho,h1];rfl
   ·rw[if_neg ho] at h1⊢;rw[if_neg ho,h1];rfl
  ·by_cases he:e=0
   ·subst he;exact .inr ⟨es,ids,cm',src',st',fd',_,once',fm',dm',fl',hs',ht',false,by simp,rfl,⟨h3,fun hh=>absurd (by simpa using hh) hne,h.id,h.en,h.ef,h.cf,h.ff⟩⟩
   ·exact .inl ⟨he,rfl⟩
theorem aLM (hk:k.length<=4000000000) (hen:ends.length<=4000000000):JD tag cms fds es ends cm fl fd ids once fm dm hs ht src st op at0 idx tz 9 k v bad:=by
 by_cases hb:bad=true\/k=[]\/200<k.length
 ·refine PJ h hne (.inl ?_) ?_
  ·rcases hb with rfl|hb
   ·rfl
   ·cases bad with
    |true=>rfl
    |false=>
     show (if k=[]\/200<k.length then((0:Int),([]:List UInt8),([]:List UInt8)) else(10,k,v)).1=0;rw[if_pos hb]
  ·unfold uH EH;dsimp only;rw[if_neg (JE hne),if_pos (show decide ((9:Int)=9)=true from rfl),if_pos (by
    rcases hb with rfl|rfl|hb
    ·rfl
    ·simp
    ·simp;exact .inr (by omega))]
   exact⟨_,rfl,rfl⟩
 ·simp only[not_or] at hb;have hb1:bad=false:=by cases bad;rfl;exact absurd rfl hb.1
  subst hb1;have hp:rQ 9 k v false=(10,k,v):=by
   show (if k=[]\/200<k.length then((0:Int),([]:List UInt8),([]:List UInt8)) else(10,k,v))=_;rw[if_neg (fun hh=>hh.elim hb.2.1 hb.2.2)]
  unfold JD tT uH EH;rw[hp];dsimp only;rw[if_neg (JE hne),if_pos (show decide ((9:Int)=9)=true from rfl),if_neg (show¬((false||decide (k=[]))||decide ((200:Int)<(k.length:Int)))=true by simp [hb.2.1]<;>omega),UE (tag,(cms,(fds,(es,())))) k (by have:=h.en;dsimp only;omega),aPM,a59]
  simp only[rC,aPM,aPQ,Int.reduceEq,↓reduceIte];rw[h.id k];have hen1:=h.en;by_cases hd:(es.any fun y=>decide (y.1=k))=true
  ·rw[if_pos hd,if_pos hd,aPM];exact⟨_,_,rfl,rfl,.inl ⟨(show (9:Int)≠0 by decide),rfl⟩⟩
  ·rw[if_neg hd,if_neg hd];by_cases h1000:es.length=1000
   ·rw[if_pos (show ((es.length:Int)=1000) by omega),if_pos (show ((1000:Int)<=(es.length:Int)) by omega),aPM];exact⟨_,_,rfl,rfl,.inl ⟨(show (6:Int)≠0 by decide),rfl⟩⟩
   ·have hf:=h.b.f;have hc:=h.b.c;have hd2:=h.b.d;rw[if_neg (show¬((es.length:Int)=1000) by omega),if_pos (show fl.length<4611686018427387904 by omega),if_pos (by simp only[aPR,aPZ];omega),if_pos (by simp only[aPR,aPZ];omega),if_neg (show¬((1000:Int)<=(es.length:Int)) by omega),if_pos (by simp only[aPZ];omega),if_pos (by simp only[List.nil_append,aPR,aPZ];omega),aPM];refine⟨_,_,rfl,rfl,.inr ⟨es++[(k,src,v,cm,s5 fl,st,fd,())],uK .str .bool k true ids,[],[],0,[],-1,[],[],[],[],false,false,true,rfl,by rw[show s5 []=[] from aQJ.1 (M0 [])];rfl,⟨a6n,fun hh=>(by simp at hh),aEb h.id _ k rfl,by simp;omega,fun y hy=> ?_,h.cf,h.ff⟩⟩⟩;rcases aQn.1 hy with hy|hy
    ·exact h.ef y hy
    ·rw[aPY.1 hy];exact⟨by unfold pK;dsimp only;omega,by unfold pK;dsimp only;rw[M0];omega,by unfold pK;dsimp only;omega⟩
theorem aLN (hf0:0<=f) (hf:f<=10) (hk:k.length<=4000000000) (hv:v.length<=4000000000) (hen:ends.length<=4000000000):JD tag cms fds es ends cm fl fd ids once fm dm hs ht src st op at0 idx tz f k v bad:=by
 have:f=0\/f=1\/f=2\/f=3\/f=4\/f=5\/f=6\/f=7\/f=8\/f=9\/f=10:=by omega
 have hr:(f=3\/f=8\/f=10)->∃rr,uH (ends,at0,idx,tag,cms,fds,es,[],src,[],cm,s5 fl,st,fd,hs,ht,op) (f,k,v,bad)=some rr/\rr.1=3:=by
  intro hh;unfold uH;dsimp only;rw[if_neg (JE hne),if_neg (by rcases hh with rfl|rfl|rfl<;>simp),if_neg (by rcases hh with rfl|rfl|rfl<;>simp),if_pos (by rcases hh with rfl|rfl|rfl<;>simp)]
  exact⟨_,rfl,rfl⟩
 rcases this with rfl|rfl|rfl|rfl|rfl|rfl|rfl|rfl|rfl|rfl|rfl
 ·exact aEB h hne (.inl rfl)
 ·exact aEB h hne (.inr rfl)
 ·exact PL h hne (.inl rfl) hk hv
 ·refine PJ h hne ?_ (hr (.inl rfl));cases bad
  ·rw[show rQ 3 k v false=(if uD v=true then((4:Int),([]:List UInt8),v) else(0,[],[])) from rfl];split
   ·exact .inr (.inl rfl)
   ·exact .inl rfl
  ·exact .inl rfl
 ·exact PL h hne (.inr (.inl rfl)) hk hv
 ·exact PL h hne (.inr (.inr (.inl rfl))) hk hv
 ·exact PL h hne (.inr (.inr (.inr (.inl rfl)))) hk hv
 ·exact PL h hne (.inr (.inr (.inr (.inr rfl)))) hk hv
 ·exact PJ h hne (.inr (.inr rfl)) (hr (.inr (.inl rfl)))
 ·exact aLM h hne hk hen
 ·exact PJ h hne (.inl (by rw[M5])) (hr (.inr (.inr rfl)))
end
end Go.Proofs.YtbbpilohihldiaaGreatDoor
namespace Go.Proofs.YtbbpilohihldiaaGreatDoor
open Vc
def wY (ends:List Int) (a i:Int) (tag:List UInt8) (cms:List (List UInt8)) (fds:List qU) (es:List qS) (src:List UInt8) (cm:List (List UInt8)) (fl:List (List UInt8)) (st:Int) (fd:List qU) (hs ht:Bool) (op:Int):RS:=
  (ends,a,i,tag,cms,fds,es,[],src,[],cm,s5 fl,st,fd,hs,ht,op)
section
variable {tag:List UInt8}{cms:List (List UInt8)}{fds:List qU}{es:List qS}{ends:List Int}{cm:List (List UInt8)}{fl:List (List UInt8)}{fd:List qU}{ids:List (List UInt8×Bool)}{once:List (Int×Bool)}{fm dm:List (List UInt8×Bool)}{hs ht:Bool}
variable {src:List UInt8}{st op:Int}
def aLO (ends:List Int) (e:Int) (x:PS) (y:RS) (a i tz:Int):Prop:=
  ∃ tag' cms' fds' es' ends' cm' fl' fd' ids' once' fm' dm' hs' ht' src' st' op',x=zF tag' cms' fds' es' (!decide (ends'=[])) ends' cm' src' st' fd' op' ids' once' fm' dm' fl'∧
    y=wY ends' a i tag' cms' fds' es' src' cm' fl' st' fd' hs' ht' op'∧SI tag' cms' fds' es' ends' cm' fl' fd' ids' once' fm' dm' hs' ht'∧(ends'=ends∨ends'=ends++[tz])
theorem aLP (h:SI tag cms fds es ends cm fl fd ids once fm dm hs ht) (hen:ends.length≤4000000000) {line:List UInt8}(hl:line.length≤4000000000) {a i:Nat}(ha:a≤4000000000) {ls:List (List UInt8)}(hi:i<ls.length) (hli:ls[i]=line) (hi2:i≤4000000000):
    ∃ e x,F9 ((a:Int),line) (zF tag cms fds es (!decide (ends=[])) ends cm src st fd op ids once fm dm fl)=some (e,x)∧
      ((e≠0∧xL ls (wY ends a i tag cms fds es src cm fl st fd hs ht op)=some (.inr (.inr ([],[],[],[],[],(a:Int),e))))∨
       (e=0∧∃y,xL ls (wY ends a i tag cms fds es src cm fl st fd hs ht op)=some (.inl y)∧aLO ends e x y ((a:Int)+(line.length:Int)) ((i:Int)+1) ((a:Int)+(line.length:Int)))):=by
  obtain⟨f,k,v,bad,h1,h2,h3,h4,h5,h6⟩:=aLz hl;have hto:pA ((a:Int)+(line.length:Int)):=by unfold pA;omega
  rw[aEw (b:=wY ends a i tag cms fds es src cm fl st fd hs ht op) (i:=i) rfl hi (by omega) (by rw[hli];exact hto),hli,h1,aPM];have hfl:pK line:=by unfold pK;omega
  have h2':A0 (Lib.trimLeftS (uS 10 line) [32,9])=some (rQ f k v bad):=h2;by_cases hne:ends=[]
  · subst hne
    obtain⟨rp,rr,g1,g2,g3⟩:=aLK (src:=src) (st:=st) (op:=op) (tz:=(a:Int)+(line.length:Int)) (bad:=bad) h h5 h6 h3 h4
    have hc:F9 ((a:Int),line) (zF tag cms fds es (!decide (([]:List Int)=[])) [] cm src st fd op ids once fm dm fl)=some (rp.1,rp.2.1,rp.2.2.1,rp.2.2.2.1,es,rp.2.2.2.2.1,rp.2.2.2.2.2.1,rp.2.2.2.2.2.2.1,rp.2.2.2.2.2.2.2.1,rp.2.2.2.2.2.2.2.2.1,rp.2.2.2.2.2.2.2.2.2.1,rp.2.2.2.2.2.2.2.2.2.2.1,rp.2.2.2.2.2.2.2.2.2.2.2.1,rp.2.2.2.2.2.2.2.2.2.2.2.2.1,rp.2.2.2.2.2.2.2.2.2.2.2.2.2.1,ids,rp.2.2.2.2.2.2.2.2.2.2.2.2.2.2.1,rp.2.2.2.2.2.2.2.2.2.2.2.2.2.2.2.1,rp.2.2.2.2.2.2.2.2.2.2.2.2.2.2.2.2.1,rp.2.2.2.2.2.2.2.2.2.2.2.2.2.2.2.2.2):=by
      unfold F9 zF;dsimp only;rw[a6g hfl,aPM,h2',aPM,if_neg (by simp),if_pos hto];rw[show (!decide (([]:List Int)=[]))=false by simp,g1,aPM]
    have hr:uH (wY [] a i tag cms fds es src cm fl st fd hs ht op) (f,k,v,bad)=some (rr.2.2.2.2.2.2.2.2.2.2.2.2.2.2,rr.2.2.2.2.2.2.2.2.2.2.2.2.2.1,rr.1,rr.2.1,rr.2.2.1,es,rr.2.2.2.1,rr.2.2.2.2.1,rr.2.2.2.2.2.1,rr.2.2.2.2.2.2.1,rr.2.2.2.2.2.2.2.1,rr.2.2.2.2.2.2.2.2.1,rr.2.2.2.2.2.2.2.2.2.1,rr.2.2.2.2.2.2.2.2.2.2.1,rr.2.2.2.2.2.2.2.2.2.2.2.1,rr.2.2.2.2.2.2.2.2.2.2.2.2.1):=by
      unfold uH wY;dsimp only;rw[if_pos (by simp),g2,aPM]
    refine⟨_,_,hc,?_⟩;rw[hr,aPM];rcases g3 with⟨e1,e2⟩ |⟨tag',cms',fds',cm',src',st',fd',op',once',fm',dm',fl',hs',ht',dn,rfl,rfl,hS⟩
    · dsimp only
      rw[e2,if_pos (by simpa using e1)];exact .inl ⟨e1,rfl⟩
    · dsimp only
      rw[if_neg (show¬(!decide ((0:Int)=0))=true by decide)];cases dn with
      | true=>
        rw[if_pos rfl,if_pos (by show ((wY [] (a:Int) (i:Int) tag cms fds es src cm fl st fd hs ht op).1.length+1)*8≤_;unfold wY;simp)];exact .inr ⟨rfl,_,rfl,tag',cms',fds',es,[(a:Int)+(line.length:Int)],cm',fl',fd',ids,once',fm',dm',hs',ht',src',st',op',rfl,rfl,hS,.inr rfl⟩
      | false=>
        rw[if_neg aQr];exact .inr ⟨rfl,_,rfl,tag',cms',fds',es,[],cm',fl',fd',ids,once',fm',dm',hs',ht',src',st',op',rfl,rfl,hS,.inl rfl⟩
  · obtain⟨rp,rr,g1,g2,g3⟩:=aLN (src:=src) (st:=st) (op:=op) (at0:=(a:Int)) (idx:=(i:Int)) (tz:=(a:Int)+(line.length:Int)) (bad:=bad) h hne h5 h6 h3 h4 hen
    have hin:(!decide (ends=[]))=true:=by simpa using hne
    have hc:F9 ((a:Int),line) (zF tag cms fds es (!decide (ends=[])) ends cm src st fd op ids once fm dm fl)=some (rp.1,tag,cms,fds,rp.2.1,true,rp.2.2.1,rp.2.2.2.2.1,rp.2.2.2.2.2.1,rp.2.2.2.2.2.2.1,rp.2.2.2.2.2.2.2.1,rp.2.2.2.2.2.2.2.2.1,rp.2.2.2.2.2.2.2.2.2.1,rp.2.2.2.2.2.2.2.2.2.2.1,rp.2.2.2.2.2.2.2.2.2.2.2.1,rp.2.2.2.1,rp.2.2.2.2.2.2.2.2.2.2.2.2.1,rp.2.2.2.2.2.2.2.2.2.2.2.2.2.1,rp.2.2.2.2.2.2.2.2.2.2.2.2.2.2.1,rp.2.2.2.2.2.2.2.2.2.2.2.2.2.2.2):=by
      rw[hin];unfold F9 zF;dsimp only;rw[a6g hfl,aPM,h2',aPM,if_pos rfl,if_pos hto,g1,aPM]
    refine⟨_,_,hc,?_⟩;have g2':uH (wY ends a i tag cms fds es src cm fl st fd hs ht op) (f,k,v,bad)=some rr:=g2;rw[g2',aPM];rcases g3 with⟨e1,e2⟩ |⟨es',ids',cm',src',st',fd',op',once',fm',dm',fl',hs',ht',dn,rfl,rfl,hS⟩
    · rw[e2,if_pos (by simpa using e1)]
      exact .inl ⟨e1,rfl⟩
    · dsimp only
      rw[if_neg (show¬(!decide ((0:Int)=0))=true by decide)];cases dn with
      | true=>
        rw[if_pos rfl,if_pos (by show ((wY ends (a:Int) (i:Int) tag cms fds es src cm fl st fd hs ht op).1.length+1)*8≤_;unfold wY;dsimp only;omega)];exact .inr ⟨rfl,_,rfl,tag,cms,fds,es',ends++[(a:Int)+(line.length:Int)],cm',fl',fd',ids',once',fm',dm',hs',ht',src',st',op',by rw[show (!decide (ends++[(a:Int)+(line.length:Int)]=[]))=true by simp];rfl,rfl,hS,.inr rfl⟩
      | false=>
        rw[if_neg aQr];have he:ends++(if false=true then[(a:Int)+(line.length:Int)] else[])=ends:=by simp
        rw[he] at hS⊢;exact .inr ⟨rfl,_,rfl,tag,cms,fds,es',ends,cm',fl',fd',ids',once',fm',dm',hs',ht',src',st',op',by rw[hin];rfl,rfl,hS,.inl rfl⟩
end
def aEC (s:List UInt8) (ls:List (List UInt8)) (l:List (Int×List UInt8)) (x:PS) (y:RS):Prop:=
  (∃e at1:Int,e≠0∧vI GU l x=none∧vI GV l x=some (.inr (at1,e))∧pY (xL ls) y=some (.inr ([],[],[],[],[],at1,e)))∨
  (∃tag' cms' fds' es' ends' cm' fl' fd' ids' once' fm' dm' hs' ht' src' st' op',vI GU l x=some (.inl (zF tag' cms' fds' es' (!decide (ends'=[])) ends' cm' src' st' fd' op' ids' once' fm' dm' fl'))∧
    vI GV l x=some (.inl (zF tag' cms' fds' es' (!decide (ends'=[])) ends' cm' src' st' fd' op' ids' once' fm' dm' fl'))∧
    pY (xL ls) y=some (.inl (ends',tag',cms',fds',es',[],src',[],cm',s5 fl',st',fd',hs',ht',op'))∧SI tag' cms' fds' es' ends' cm' fl' fd' ids' once' fm' dm' hs' ht'∧(ends'=[]∨H5 s.length ends')∧ends'.length≤s.length)
theorem sim {s:List UInt8}(hs0:s.length≤4000000000): ∀(n a i:Nat) {tag:List UInt8}{cms:List (List UInt8)}{fds:List qU}{es:List qS}{ends:List Int}{cm:List (List UInt8)}{fl:List (List UInt8)}{fd:List qU}{ids:List (List UInt8×Bool)}{once:List (Int×Bool)}{fm dm:List (List UInt8×Bool)}{hs ht:Bool}{src:List UInt8}{st op:Int},
    a≤s.length→s.length≤n+a→(uG s).drop i=sI s n a→i≤a→SI tag cms fds es ends cm fl fd ids once fm dm hs ht→(ends=[]∨H5 a ends)→ends.length≤i→
    aEC s ((uG s).map (·.2)) (sI s n a) (zF tag cms fds es (!decide (ends=[])) ends cm src st fd op ids once fm dm fl) (wY ends a i tag cms fds es src cm fl st fd hs ht op):=by
  intro n
  induction n with
  | zero=>
    intro a i tag cms fds es ends cm fl fd ids once fm dm hs ht src st op ha hn hd hia h hea hei
    have hlen:(uG s).length≤i:=by
      have:=aQk List.length hd;rw[aP5,show sI s 0 a=[] from rfl,aPZ] at this;omega
    have hst:xL ((uG s).map (·.2)) (wY ends a i tag cms fds es src cm fl st fd hs ht op)=some (.inr (.inl (ends,tag,cms,fds,es,[],src,[],cm,s5 fl,st,fd,hs,ht,op))):=by
      unfold xL wY;dsimp only;rw[if_neg (by simp;omega)]
    refine .inr ⟨tag,cms,fds,es,ends,cm,fl,fd,ids,once,fm,dm,hs,ht,src,st,op,rfl,rfl,tZ hst,h,?_,by omega⟩;rcases hea with h1|h1
    ·exact .inl h1
    ·exact .inr (a6a h1 ha)
  | succ n ih=>
    intro a i tag cms fds es ends cm fl fd ids once fm dm hs ht src st op ha hn hd hia h hea hei;by_cases hlt:a<s.length
    · have hto:=YO hlt
      have hl:sI s (n+1) a=((a:Int),(s.drop a).take (sH s a-a))::sI s n (sH s a):=by rw[sI,if_pos hlt]
      rw[hl] at hd⊢
      have hil:i<(uG s).length:=by
        have:=aQk List.length hd;rw[aP5,aPR] at this;omega
      have hget:(uG s)[i]=((a:Int),(s.drop a).take (sH s a-a)):=by
        have:=aQa hil;rw[hd] at this;exact(List.cons.inj this).1.symm
      have hd2:(uG s).drop (i+1)=sI s n (sH s a):=by
        have:=aQa hil;rw[hd] at this;exact(List.cons.inj this).2.symm
      have hlen:((s.drop a).take (sH s a-a)).length=sH s a-a:=by rw[aQc,aP5];omega
      have hi2:i<((uG s).map (·.2)).length:=by rw[aRt];exact hil
      have hli:((uG s).map (·.2))[i]=(s.drop a).take (sH s a-a):=by rw[List.getElem_map,hget]
      obtain⟨e,x,hc,hres⟩:=aLP (src:=src) (st:=st) (op:=op) h (by omega) (line:=(s.drop a).take (sH s a-a)) (by omega) (a:=a) (i:=i) (by omega) hi2 hli (by omega);rcases hres with⟨he,hr⟩ |⟨rfl,y,hr,tag',cms',fds',es',ends',cm',fl',fd',ids',once',fm',dm',hs',ht',src',st',op',rfl,rfl,hS,hE⟩
      · refine .inl ⟨e,(a:Int),he,?_,?_,tZ hr⟩
        · unfold vI
          rw[aEu,hc,aPM,if_pos (by simpa using he)];rfl
        · unfold vI
          rw[aEv,hc,aPM,if_pos (by simpa using he)];rfl
      · have hto2:(a:Int)+(((s.drop a).take (sH s a-a)).length:Int)=((sH s a:Nat):Int):=by rw[hlen];omega
        rw[hto2] at hr hE
        have hnext:=ih (sH s a) (i+1) (src:=src') (st:=st') (op:=op') hto.2 (by omega) hd2 (by omega) hS (by
          rcases hE with rfl|rfl
          · rcases hea with h1|h1
            ·exact .inl h1
            ·exact .inr (a6a h1 (by omega))
          · rcases hea with rfl|h1
            ·exact .inr (aLf _)
            ·exact .inr (aLe h1 (by omega))) (by
          rcases hE with rfl|rfl
          ·omega
          ·simp;omega)
        have hr2:pY (xL ((uG s).map (·.2))) (wY ends a i tag cms fds es src cm fl st fd hs ht op)=pY (xL ((uG s).map (·.2))) (wY ends' (sH s a:Nat) ((i+1:Nat):Int) tag' cms' fds' es' src' cm' fl' st' fd' hs' ht' op'):=zT hr
        have f1:vI GU (((a:Int),(s.drop a).take (sH s a-a))::sI s n (sH s a)) (zF tag cms fds es (!decide (ends=[])) ends cm src st fd op ids once fm dm fl)=vI GU (sI s n (sH s a)) (zF tag' cms' fds' es' (!decide (ends'=[])) ends' cm' src' st' fd' op' ids' once' fm' dm' fl'):=by
          rw[vI,aEu,hc,aPM];dsimp only;rw[if_neg (show¬(!decide ((0:Int)=0))=true by decide)];rfl
        have f2:vI GV (((a:Int),(s.drop a).take (sH s a-a))::sI s n (sH s a)) (zF tag cms fds es (!decide (ends=[])) ends cm src st fd op ids once fm dm fl)=vI GV (sI s n (sH s a)) (zF tag' cms' fds' es' (!decide (ends'=[])) ends' cm' src' st' fd' op' ids' once' fm' dm' fl'):=by
          rw[vI,aEv,hc,aPM];dsimp only;rw[if_neg (show¬(!decide ((0:Int)=0))=true by decide)];rfl
        unfold aEC at hnext⊢;rw[f1,f2,hr2];exact hnext
    · have hl:sI s (n+1) a=sI s 0 a:=by rw[F8 (by omega),F8 (by omega)]
      have hlen:(uG s).length≤i:=by
        rw[hl] at hd;have:=aQk List.length hd;rw[aP5,show sI s 0 a=[] from rfl,aPZ] at this;omega
      have hst:xL ((uG s).map (·.2)) (wY ends a i tag cms fds es src cm fl st fd hs ht op)=some (.inr (.inl (ends,tag,cms,fds,es,[],src,[],cm,s5 fl,st,fd,hs,ht,op))):=by
        unfold xL wY;dsimp only;rw[if_neg (by simp;omega)]
      rw[hl];refine .inr ⟨tag,cms,fds,es,ends,cm,fl,fd,ids,once,fm,dm,hs,ht,src,st,op,rfl,rfl,tZ hst,h,?_,by omega⟩;rcases hea with h1|h1
      ·exact .inl h1
      ·exact .inr (a6a h1 ha)
theorem aED {s:List UInt8}(hs0:s.length≤4000000000): ∃v,GT s=some v∧pK v.2.1∧pK v.2.2.1∧pK v.2.2.2.1∧(∀y∈v.2.2.2.1,M1 y)∧
    ((v.2.2.2.2.2.2≠0∧v.1=[]∧v.2.1=[]∧v.2.2.1=[]∧v.2.2.2.1=[]∧sX s=none∧GW s=some (v.2.2.2.2.2.1,v.2.2.2.2.2.2))∨
     (v.2.2.2.2.2.2=0∧v.2.2.2.2.2.1=0∧H5 s.length v.2.2.2.2.1∧v.2.2.2.2.1.length≤s.length∧∃r,sX s=some r∧r.1=v.1∧r.2.1=v.2.1∧r.2.2.1=v.2.2.1∧r.2.2.2.1=v.2.2.2.1∧r.2.2.2.2.2.1=v.2.2.2.2.1)):=by
  have hSI:SI [] [] [] [] [] [] [] [] [] [] [] [] false false:=⟨a6n,fun _=>rfl,fun _=>rfl,by decide,fun _ hh=>by(cases hh),y9,y9⟩;have hsim:=sim hs0 s.length 0 0 (src:=[]) (st:=0) (op:= -1) (aQI _) (by omega) (by rw[aQL];rfl) (Nat.le_refl _) hSI (.inl rfl) (Nat.le_refl _);have hs4:s5 []=[]:=aQJ.1 (M0 [])
  have hx:zF [] [] [] [] (!decide (([]:List Int)=[])) [] [] [] 0 [] (-1) [] [] [] [] []=(([]:List UInt8),([]:List (List UInt8)),([]:List pP),([]:List qS),false,([]:List Int),([]:List (List UInt8)),([]:List UInt8),([]:List UInt8),([]:List UInt8),([]:List (List UInt8)),(0:Int),([]:List pP),(-1:Int),([]:List ((List UInt8)×Bool)),([]:List (Int×Bool)),([]:List ((List UInt8)×Bool)),([]:List ((List UInt8)×Bool)),([]:List (List UInt8))):=by
    rw[show (!decide (([]:List Int)=[]))=false by simp];rfl
  have hy:wY [] (0:Nat) (0:Nat) [] [] [] [] [] [] [] 0 [] false false (-1)=(([]:List Int),(0:Int),(0:Int),([]:List UInt8),([]:List (List UInt8)),([]:List pP),([]:List qS),([]:List UInt8),([]:List UInt8),([]:List UInt8),([]:List (List UInt8)),([]:List (List UInt8)),(0:Int),([]:List pP),false,false,(-1:Int)):=by
    unfold wY;rw[hs4];rfl
  rw[hx,hy] at hsim;have hlI:sI s s.length 0=uG s:=rfl;rw[hlI] at hsim;unfold GT sX GW;rw[a6m (by omega),aPM,if_pos (by omega),if_pos (by omega)];rcases hsim with⟨e,at1,he,h1,h2,h3⟩ |⟨tag',cms',fds',es',ends',cm',fl',fd',ids',once',fm',dm',hs',ht',src',st',op',h1,h2,h3,h4,h5,h6⟩
  · rw[h1,h2,h3]
    exact⟨_,rfl,y9,y9,y9,fun _ hh=>by(cases hh),.inl ⟨he,rfl,rfl,rfl,rfl,rfl,rfl⟩⟩
  · rw[h1,h2,h3]
    unfold zF;simp only[s3,aPM];by_cases hn:ends'=[]
    · rw[if_pos (by rw[hn];rfl),if_pos (by rw[hn];rfl),if_pos (by rw[hn];rfl)]
      exact⟨_,rfl,y9,y9,y9,fun _ hh=>by(cases hh),.inl ⟨show (3:Int)≠0 by decide,rfl,rfl,rfl,rfl,rfl,rfl⟩⟩
    · have hl0: ¬decide ((ends'.length:Int)=0)=true:=JE hn
      have hd:(!(!decide (ends'=[])))=false:=by simpa using hn
      rw[if_neg hl0,hd];simp only[aQG,↓reduceIte];by_cases ho:decide (0≤op')=true
      · simp only[ho,↓reduceIte]
        exact⟨_,rfl,y9,y9,y9,fun _ hh=>by(cases hh),.inl ⟨show (3:Int)≠0 by decide,(by first|rfl|trivial),(by first|rfl|trivial),(by first|rfl|trivial),(by first|rfl|trivial),(by first|rfl|trivial),(by first|rfl|trivial)⟩⟩
      · simp only[ho,aQG,↓reduceIte]
        have hen:=h4.en;exact⟨_,rfl,h4.cf,h4.ff,by unfold pK;dsimp only;omega,h4.ef,.inr ⟨(by first|rfl|trivial),(by first|rfl|trivial),h5.resolve_left hn,h6,_,rfl,(by first|rfl|trivial),(by first|rfl|trivial),(by first|rfl|trivial),(by first|rfl|trivial),(by first|rfl|trivial)⟩⟩
theorem aEE {s:List UInt8}(hs0:s.length≤4000000000): ∃v,xC s=some v∧P6 s=some v∧pK v.2.1∧pK v.2.2.1∧pK v.2.2.2.1∧∀y∈v.2.2.2.1,M1 y:=by
  obtain⟨v,h1,f1,f2,f3,f4,h⟩:=aED hs0;unfold xC P6;rw[h1,aPM];refine⟨_,?_,rfl,f1,f2,f3,f4⟩;rcases h with⟨he,v1,v2,v3,v4,p1,p2⟩ |⟨he,ha,_,_,r,p1,q1,q2,q3,q4,_⟩
  ·rw[p1,if_neg (by simp),p2,aPM,if_pos (by simpa using he),v1,v2,v3,v4]
  ·rw[p1,if_pos (show (some r).isSome=true from rfl),aPM,if_neg (show¬(!decide ((0:Int)=0))=true by decide),q1,q2,q3,q4,he,ha]
set_option maxRecDepth 1000000
def LN (s:List UInt8):List (List UInt8):=(uG s).map (·.2)
inductive WL:List (List UInt8)->Prop
 |nil:WL []
 |one {u:List UInt8}(h:u≠[]) (hu:(10:UInt8)∉u):WL [u]
 |cons {u:List UInt8}{l:List (List UInt8)}(hu:(10:UInt8)∉u) (h:WL l):WL ((u++[10])::l)
theorem aEF {s:List UInt8}: ∀(n m i:Nat),s.length<=n+i->s.length<=m+i->sI s n i=sI s m i
 |0,m,i,hn,_=>by rw[F8 (by omega),F8 (by omega)]
 |n+1,0,i,_,hm=>by rw[F8 (by omega),F8 (by omega)]
 |n+1,m+1,i,hn,hm=>by
  rw[sI,sI];by_cases h:i<s.length
  ·have:=YO h;rw[if_pos h,if_pos h,aEF n m (sH s i) (by omega) (by omega)]
  ·rw[if_neg h,if_neg h]
theorem aLR {a s:List UInt8}{i:Nat}:sH (a++s) (a.length+i)=a.length+sH s i:=by
 have hd:(a++s).drop (a.length+i)=s.drop i:=by rw[List.drop_append];simp
 unfold sH;rw[hd,aPP];split
 ·omega
 ·omega
theorem aEG {a s:List UInt8}: ∀(n i:Nat),(sI (a++s) n (a.length+i)).map (·.2)=(sI s n i).map (·.2)
 |0,i=>rfl
 |n+1,i=>by
  have hd:(a++s).drop (a.length+i)=s.drop i:=by rw[List.drop_append];simp
  rw[sI,sI,aLR,hd,aPP];by_cases h:i<s.length
  ·rw[if_pos (by omega),if_pos h,aQO,aQO,aEG n (sH s i)];rw[show a.length+sH s i- (a.length+i)=sH s i-i by omega]
  ·rw[if_neg (by omega),if_neg h]
theorem aEH {u t:List UInt8}(hu:(10:UInt8)∉u):LN (u++[10]++t)=(u++[10])::LN t:=by
 have hlen:(u++[10]++t).length=u.length+1+t.length:=by simp;omega
 have hto:sH (u++[10]++t) 0=u.length+1:=aEk (aQI _) (by omega) (fun j h _ h1 hh=>hu (by
  have h9:(u++[10]++t)[j]=u[j]'(by omega):=by simp [List.getElem_append,show j<u.length by omega,show j<u.length+1 by omega]
  rw[h9] at hh;rw[<-hh];exact aQC _)) (by simp [List.getElem_append])
 unfold LN uG;rw[hlen,show u.length+1+t.length=(u.length+t.length)+1 by omega,sI,if_pos (by omega),hto,aQO];have h2:=aEG (a:=u++[10]) (s:=t) (u.length+t.length) 0;have h3:(u++[10]:List UInt8).length=u.length+1:=by simp
 rw[aRg,h3] at h2;rw[h2,aEF (u.length+t.length) t.length 0 (by omega) (by omega)];congr 1;rw[aQL,Nat.sub_zero,List.take_left' (by simp)]
theorem aEI {u:List UInt8}(h:u≠[]) (hu:(10:UInt8)∉u):LN u=[u]:=by
 have hto:sH u 0=u.length:=aEl (fun j hj _ hh=>hu (by rw[<-hh];exact aQC _));have hpos:0<u.length:=aRw.2 h;unfold LN uG;obtain⟨n,hn⟩: ∃n,u.length=n+1:=⟨u.length-1,by omega⟩;rw[hn,sI,if_pos hpos,hto,F8 (Nat.le_refl _)];simp
theorem aLS {l:List (List UInt8)}(h:WL l):LN l.flatten=l:=by
 induction h with
 |nil=>rfl
 |one h hu=>rw[List.flatten_singleton];exact aEI h hu
 |cons hu _ ih=>rw[aQP,aEH hu,ih]
theorem aLT: ∀(n:Nat) (s:List UInt8),s.length<=n->WL (LN s)/\(LN s).flatten=s:=by
 intro n
 induction n with
 |zero=>
  intro s h;obtain rfl:=aQJ.1 (Nat.le_zero.1 h);exact⟨.nil,rfl⟩
 |succ n ih=>
  intro s h;by_cases h10:(10:UInt8)∈s
  ·obtain⟨u,t,rfl,hu⟩:=List.eq_append_cons_of_mem h10;have he:u++10::t=u++[10]++t:=by simp
   obtain⟨h1,h2⟩:=ih t (by simp at h;omega);rw[he,aEH hu];exact⟨.cons hu h1,by rw[aQP,h2]⟩
  ·by_cases hne:s=[]
   ·subst hne;exact⟨.nil,rfl⟩
   ·rw[aEI hne h10];exact⟨.one hne h10,by simp⟩
def FB (x:List UInt8):Prop:= ∃u:List UInt8,(10:UInt8)∉u/\x=u++[10]
theorem aEJ {l:List (List UInt8)}(h:WL l): ∀{xs:List (List UInt8)},(∀x∈xs,FB x)->WL (xs++l)
 |[],_=>h
 |x::xs,hx=>by
  obtain⟨u,hu,rfl⟩:=hx x aP8;exact .cons hu (aEJ h (fun y hy=>hx y (aP1 _ hy)))
abbrev FR:=(List Int)×(List UInt8)×(List (List UInt8))×(List pP)×(List qS)×(List UInt8)×(List UInt8)×(List UInt8)×(List (List UInt8))×(List (List UInt8))×Int×(List pP)×Bool×Bool×Int
abbrev ER7:=(List UInt8)×(List (List UInt8))×(List pP)×(List qS)×(List Int)×Int×Int
noncomputable def xD (line:List UInt8) (b:RS):Option (RS⊕ER7):=
  (uQ line).bind fun q=>(uH b q).bind fun r=>
     if (!decide (r.1=(0:Int)))=true then
      some (.inr ([],[],[],[],[],b.2.1,r.1))
     else
      if r.2.1=true then
       if (b.1.length+1)*8≤140737488355328 then
         some (.inl (b.1++[b.2.1+(line.length:Int)],b.2.1+(line.length:Int),b.2.2.1+1,r.2.2))
       else none
      else
        some (.inl (b.1,b.2.1+(line.length:Int),b.2.2.1+1,r.2.2))
noncomputable def tU:List (List UInt8)→RS→Option (FR⊕ER7)
  |[],b=>some (.inl (b.1,b.2.2.2))
  | l::ls,b=>(xD l b).bind fun w=>match w with
    | .inl b'=>tU ls b'
    | .inr e=>some (.inr e)
theorem a6r {L:List (List UInt8)}(hL:L.length≤4000000000): ∀(ls:List (List UInt8)) (i:Nat) (b:RS),L.drop i=ls→b.2.2.1=(i:Int)→0≤b.2.1→b.2.1+(ls.flatten.length:Int)≤4000000000→pY (xL L) b=tU ls b
  | [],i,b,hd,hi,h0,h1=>by
    have hlen:L.length≤i:=by
      have:=aQk List.length hd;rw[aP5,aPZ] at this;omega
    obtain⟨b1,b2,b3,b4,b5,b6,b7,b8,b9,b10,b11,b12,b13,b14,H4,b16,b17⟩:=b;dsimp only at hi;subst hi;refine tZ ?_;unfold xL;dsimp only;rw[if_neg (by simp;omega)]
  | l::ls,i,b,hd,hi,h0,h1=>by
    have hil:i<L.length:=by
      have:=aQk List.length hd;rw[aP5,aPR] at this;omega
    have hc:=aQa hil;rw[hd] at hc;obtain⟨rfl,h2⟩:=List.cons.inj hc;rw[aQP,aPP] at h1;have hst:=aEw (b:=b) hi hil (by omega) (by unfold pA;omega);rw[z7,hst,tU];unfold xD;rw[hi];cases hp:uQ L[i] with
    |none=>rfl
    | some q=>
      rw[aPM,aPM];cases hr:uH b q with
      |none=>rfl
      | some r=>
        rw[aPM,aPM];by_cases g1:(!decide (r.1=(0:Int)))=true
        · rw[if_pos g1,if_pos g1]
          rfl
        · rw[if_neg g1,if_neg g1]
          by_cases g2:r.2.1=true
          · rw[if_pos g2,if_pos g2]
            by_cases g3:(b.1.length+1)*8≤140737488355328
            · rw[if_pos g3,if_pos g3,aPM,aPM]
              exact a6r hL ls (i+1) _ h2.symm (by dsimp only;omega) (by dsimp only;omega) (by dsimp only;omega)
            · rw[if_neg g3,if_neg g3]
              rfl
          · rw[if_neg g2,if_neg g2,aPM,aPM]
            exact a6r hL ls (i+1) _ h2.symm (by dsimp only;omega) (by dsimp only;omega) (by dsimp only;omega)
def JF:RS:=([],0,0,[],[],[],[],[],[],[],[],[],0,[],false,false,-1)
theorem aLU (s:List UInt8):(LN s).flatten.length=s.length:=by rw[(aLT s.length s (Nat.le_refl _)).2]
theorem aEK {s:List UInt8}(hs:s.length<=4000000000):pY (xL (LN s)) JF=tU (LN s) JF:=by
 have hl:(LN s).length<=s.length:=by
  unfold LN;rw[aRt];exact aEo s _ _
 refine a6r (by omega) (LN s) 0 JF (by rw[aQL]) rfl (aQS _) ?_;rw[aLU];show (0:Int)+(s.length:Int)<=4000000000;omega
theorem vZ {p:Prop}{α:Type}{v:α}:p->(some v).isSome=true:=fun _=>rfl
theorem PM {ρ:Type}{f:Int->Option (Int⊕(Unit⊕ρ))}{n:Nat}(p:Nat->Bool) (g:Nat->ρ)
  (hf: ∀(i:Nat),i<n->f i=if p i=true then some (.inr (.inr (g i))) else some (.inl (i+1)))
  (he:f n=some (.inr (.inl ()))):pY f 0=some (uP (fun k=> .inr (g k)) (.inl ()) ((List.range n).findIdx? p)):=by
 refine zV (l:=List.range n) p g (fun i h=> ?_) (by rw[List.length_range];exact he);have hi:i<n:=by rw[List.length_range] at h;exact h
 rw[List.getElem_range];exact hf i hi
theorem a6s (a b:List UInt8):(!Op.bytesLess a b)=(Op.bytesLess b a||decide (b=a)):=by
 rw[bytesLess_eq,bytesLess_eq,aQX];simp only[aQf,aQq,aQT,aPQ];constructor
 ·intro h;exact(List.le_iff_lt_or_eq.1 (List.not_lt.1 h))
 ·rintro(h|h)
  ·exact List.lt_asymm h
  ·rw[h];exact List.lt_irrefl _
theorem PN {n:Nat}{p:Nat->Bool}{b:Bool}:s3 (some (uP (fun _=>Sum.inr false) (Sum.inl ()) ((List.range n).findIdx? p))) (fun _:Unit=>some b)=some (!((List.range n).any p)&&b):=by
 rw[GX];cases(List.range n).any p<;>rfl
def uY (l:List (List UInt8)):Bool:=decide ((l.length:Int)<=20)&& !(l.any fun x=> !rR x)
theorem aLV {α:Type}{l:List α}{p:α->Bool}{b:Bool}:s3 (some (uP (fun _=>Sum.inr false) (Sum.inl ()) (l.findIdx? p))) (fun _:Unit=>some b)=some (!(l.any p)&&b):=by
 rw[GX];cases l.any p<;>rfl
theorem aEL (l:List (List UInt8)) (hl:pK l) (hx: ∀x∈l,pK x):z8 l=some (uY l):=by
 unfold pK at hl;have h:=zV (f:=OW l) (l:=l) (fun x=> !rR x) (fun _=>false) (fun i h=>by
  obtain⟨h1,h2⟩:=GZ l[i] (hx _ (aQC h));unfold OW;rw[if_pos (sQ h),if_pos (rO h),xB (t:= .str) h,h1,aPM,h2,if_pos (sJ (by omega))]) (by
  unfold OW;rw[if_neg (uR _)])
 unfold z8;rw[h,aLV,uY,Bool.and_comm]
theorem aLW (l:List (List UInt8)) (hl:pK l) (hx: ∀x∈l,pK x):zZ l=some (l.any fun x=> !rR x):=by
 unfold pK at hl;have h:=zV (f:=OU l) (l:=l) (fun x=> !rR x) (fun k=>(k:Int)) (fun i h=>by
  have h1:=LU l[i] (hx _ (aQC h));unfold OU OR;rw[if_pos (sQ h),if_pos (rO h),xB (t:= .str) h,h1,aPM,aPM,if_pos (sJ (by omega))];rfl) (by
  unfold OU;rw[if_neg (uR _)])
 unfold zZ LF;rw[h,F2];show some (decide _)=_;rw[aKl]
theorem aEM (l:List (List UInt8)) (hl:pK l) (hx: ∀x∈l,pK x):IW l=some ()/\((decide ((l.length:Int)<=20))&&(!(val (zZ l))))=uY l:=by
 unfold IW;rw[aLW l hl hx];exact⟨if_pos vZ,rfl⟩
def PO (l:List (List UInt8)) (i:Nat):Bool:=(!sC (l.getD i []))||(decide (0<i)&& !Op.bytesLess (l.getD (i-1) []) (l.getD i []))
def zG (l:List (List UInt8)):Bool:= !((List.range l.length).any (PO l))&&decide ((l.length:Int)<=20)
theorem UI {l:List (List UInt8)}{i:Nat}:pQ .str l (i:Int)=l.getD i []:=by unfold pQ;rw[aQv];rfl
theorem aEN {l:List (List UInt8)}{i:Nat}:pQ .str l ((i:Int)-1)=l.getD (i-1) []:=by
 unfold pQ;rw[show ((i:Int)-1).toNat=i-1 by omega];rfl
theorem UJ {i:Nat}:decide ((0:Int)<(i:Int))=decide (0<i):=by simp
theorem aLX (l:List (List UInt8)) (hl:pK l):EJ l=some (zG l):=by
 unfold pK at hl;have h:=PM (f:=O6 l) (n:=l.length) (PO l) (fun _=>false) (fun i h=>by
  unfold O6;rw[if_pos (sQ h),if_pos (rO h),UI,aEN,U0,aPM,UJ];have h0: ∀q:Bool,((q==false)&&(decide (0<i)==true))=true->0<i:=fun q hq=>by
   simp only[aPT,aRs,aPQ] at hq;exact hq.2
  rw[if_pos (fun hq=>by have:=h0 _ hq;unfold pA;omega),if_pos (fun hq=>by have:=h0 _ hq;omega),if_pos (sJ (by omega))];rfl) (by
  unfold O6;rw[if_neg (uR _)])
 unfold EJ;rw[h,PN];rfl
theorem aLY (l:List (List UInt8)) (hl:pK l) (hx: ∀x∈l,pK x):C9 l=some (zG l):=by
 unfold pK at hl;have h:=PM (f:=OO l) (n:=l.length) (PO l) (fun _=>false) (fun i h=>by
  unfold OO;have hf:pK (l.getD i []):=by rw[aQe,aPU h];exact hx _ (aQC h)
  rw[if_pos (sQ h),if_pos (rO h),UI,aEN,DE _ hf,aPM,UJ];have h0: ∀q:Bool,((q==false)&&(decide (0<i)==true))=true->0<i:=fun q hq=>by
   simp only[aPT,aRs,aPQ] at hq;exact hq.2
  rw[if_pos (fun _=>rO h),if_pos (fun hq=>by have:=h0 _ hq;unfold pA;omega),if_pos (fun hq=>by have:=h0 _ hq;omega),if_pos (sJ (by omega)),<-a6s];rfl) (by
  unfold OO;rw[if_neg (uR _)])
 unfold C9;rw[h,PN];rfl
abbrev fD:qU:=([],([],()))
def PP (l:List qU) (i:Nat):Bool:=((!sC (l.getD i fD).1)||(!rR (l.getD i fD).2.1))||(decide (0<i)&& !Op.bytesLess (l.getD (i-1) fD).1 (l.getD i fD).1)
def uT (l:List qU):Bool:= !((List.range l.length).any (PP l))&&decide ((l.length:Int)<=20)
theorem a6t {l:List qU}{i:Nat}:pQ (.pair .str (.pair .str .unit)) l (i:Int)=l.getD i fD:=by unfold pQ;rw[aQv];rfl
theorem aEO {l:List qU}{i:Nat}:pQ (.pair .str (.pair .str .unit)) l ((i:Int)-1)=l.getD (i-1) fD:=by
 unfold pQ;rw[show ((i:Int)-1).toNat=i-1 by omega];rfl
def PQ (x:qU):Prop:=pK x.1/\pK x.2.1
theorem JG {α:Type}{l:List α}{i:Nat}{d:α}(h:i<l.length):l.getD i d∈l:=by
 rw[aQe,aPU h];exact aQC h
theorem UK {i:Nat}{q:Bool}(hq:((q==false)&&(decide (0<i)==true))=true):0<i:=by
 simp only[aPT,aRs,aPQ] at hq;exact hq.2
theorem aEP (l:List qU) (hl:pK l) (hx: ∀x∈l,PQ x):DA l=some (uT l):=by
 unfold pK at hl;have h:=PM (f:=OP l) (n:=l.length) (PP l) (fun _=>false) (fun i h=>by
  unfold OP;have hf:=hx _ (JG (d:=fD) h);rw[if_pos (sQ h),if_pos (rO h),a6t,aEO,U0,aPM,UJ,LU _ hf.2];rw[if_pos vZ,if_pos (fun hq=>by have:=UK hq;unfold pA;omega),if_pos (fun hq=>by have:=UK hq;omega),if_pos (sJ (by omega))];rfl) (by
  unfold OP;rw[if_neg (uR _)])
 unfold DA;rw[h,PN];rfl
theorem aEQ (l:List qU) (hl:pK l) (hx: ∀x∈l,PQ x):BE l=some (uT l):=by
 unfold pK at hl;have h:=PM (f:=OX l) (n:=l.length) (PP l) (fun _=>false) (fun i h=>by
  unfold OX;have hf:=hx _ (JG (d:=fD) h);obtain⟨h1,h2⟩:=GZ _ hf.2;rw[if_pos (sQ h),if_pos (rO h),a6t,aEO,DE _ hf.1,aPM,UJ,h1,h2];rw[if_pos (fun _=>rO h),if_pos vZ,if_pos (fun _=>rO h),if_pos (fun hq=>by have:=UK hq;unfold pA;omega),if_pos (fun hq=>by have:=UK hq;omega),if_pos (sJ (by omega)),<-a6s];rfl) (by
  unfold OX;rw[if_neg (uR _)])
 unfold BE;rw[h,PN];rfl
abbrev sY:=qS
structure UL (x:sY):Prop where
 id:pK x.1
 src:pK x.2.1
 tgt:pK x.2.2.1
 com:pK x.2.2.2.1/\∀y∈x.2.2.2.1,pK y
 flg:pK x.2.2.2.2.1/\∀y∈x.2.2.2.2.1,pK y
 fld:pK x.2.2.2.2.2.2.1/\∀y∈x.2.2.2.2.2.2.1,PQ y
def wZ (x:sY):Bool:=
 (((((((!decide (x.1=[]))&&decide ((x.1.length:Int)<=200))&&rR x.1)&&rR x.2.1)&&rR x.2.2.1)&&uY x.2.2.2.1)&&zG x.2.2.2.2.1)&&(decide (0<=x.2.2.2.2.2.1)&&decide (x.2.2.2.2.2.1<=4))&&uT x.2.2.2.2.2.2.1
theorem aLZ (x:sY) (h:UL x):GR x=some (wZ x):=by
 obtain⟨t1,t2⟩:=aEM _ h.com.1 h.com.2;have e1:=aLX _ h.flg.1;have e2:=aEP _ h.fld.1 h.fld.2;unfold GR;rw[LU _ h.id,LU _ h.src,LU _ h.tgt,t1,t2,e1,e2];have k: ∀s:List UInt8,(decide ((s.length:Int)<=4000)&&Lib.validD s)=rR s:=fun s=>rfl;rw[if_pos vZ,aPM,if_pos vZ,if_pos vZ,if_pos vZ,if_pos vZ,k,k,k];unfold wZ;show (if _ then some false else some _)=_;have a1:decide ((200:Int)<(x.1.length:Int))= !decide ((x.1.length:Int)<=200):=by rw[<-decide_not];exact aRy.2 (by omega)
 have a2:decide (x.2.2.2.2.2.1<(0:Int))= !decide ((0:Int)<=x.2.2.2.2.2.1):=by rw[<-decide_not];exact aRy.2 (by omega)
 have a3:decide ((4:Int)<x.2.2.2.2.2.1)= !decide (x.2.2.2.2.2.1<=(4:Int)):=by rw[<-decide_not];exact aRy.2 (by omega)
 rw[a1,a2,a3];show (if _ then some false else some (((((rR x.2.1&&rR x.2.2.1)&&uY x.2.2.2.1)&&zG x.2.2.2.2.1))&&uT x.2.2.2.2.2.2.1))=_;generalize decide (x.1=[])=b1;generalize decide ((x.1.length:Int)<=200)=b2;generalize rR x.1=b3;generalize rR x.2.1=b4;generalize rR x.2.2.1=b5;generalize uY x.2.2.2.1=b6;generalize zG x.2.2.2.2.1=b7;generalize decide ((0:Int)<=x.2.2.2.2.2.1)=b8;generalize decide (x.2.2.2.2.2.1<=(4:Int))=b9;generalize uT x.2.2.2.2.2.2.1=b10;cases b1<;>cases b2<;>cases b3<;>cases b8<;>cases b9<;>simp
theorem aL0 (x:sY) (h:UL x):LK x=some ()/\((((((((((!decide (x.1=([]:List UInt8)))&&(decide ((x.1.length:Int)<=(200:Int))))&&((decide ((x.1.length:Int)<=(4000:Int)))&&(val (t7 x.1))))&&((decide ((x.2.1.length:Int)<=(4000:Int)))&&(val (t7 x.2.1))))&&((decide ((x.2.2.1.length:Int)<=(4000:Int)))&&(val (t7 x.2.2.1))))&&(val (z8 x.2.2.2.1)))&&(val (C9 x.2.2.2.2.1)))&&(decide ((0:Int)<=x.2.2.2.2.2.1)))&&(decide (x.2.2.2.2.2.1<=(4:Int))))&&(val (BE x.2.2.2.2.2.2.1)))=wZ x:=by
 obtain⟨u1,v1⟩:=GZ _ h.id;obtain⟨u2,v2⟩:=GZ _ h.src;obtain⟨u3,v3⟩:=GZ _ h.tgt;have e0:=aEL _ h.com.1 h.com.2;have e1:=aLY _ h.flg.1 h.flg.2;have e2:=aEQ _ h.fld.1 h.fld.2;unfold LK;rw[u1,u2,u3,v1,v2,v3,e0,e1,e2];refine⟨?_,?_⟩
 ·rw[if_pos vZ,if_pos vZ,if_pos vZ,if_pos vZ,if_pos vZ,if_pos vZ]
 ·unfold wZ;show (((((((((!_&&_)&&_)&&_)&&_)&&uY x.2.2.2.1)&&zG x.2.2.2.2.1)&&_)&&_)&&uT x.2.2.2.2.2.2.1)=_;simp only[Bool.and_assoc]
abbrev eD:sY:=([],([],([],([],([],(0,([],())))))))
def CH (es:List sY) (i:Nat):Bool:=((es.take i).any fun y=>decide (y.1=(es.getD i eD).1))|| !wZ (es.getD i eD)
def uZ (c:C4):Bool:=((uD c.1&&uY c.2.1)&&uT c.2.2.1)&&(decide ((c.2.2.2.1.length:Int)<=1000)&& !((List.range c.2.2.2.1.length).any (CH c.2.2.2.1)))
theorem a6u {l:List sY}{i:Nat}:pQ rI l (i:Int)=l.getD i eD:=by unfold pQ;rw[aQv];rfl
structure PR (c:C4):Prop where
 tag:pK c.1
 com:pK c.2.1/\∀y∈c.2.1,pK y
 fld:pK c.2.2.1/\∀y∈c.2.2.1,PQ y
 len:c.2.2.2.1.length<=5000
 ent: ∀x∈c.2.2.2.1,UL x
theorem aL1 {α:Type}{l:List α}{i:Nat}{d:α}(h:i<l.length):l.take (i+1)=l.take i++[l.getD i d]:=by
 rw[List.take_add_one,aPU h,aQe,aPU h];rfl
theorem aER {c:C4}(hc:PR c): ∀(n i:Nat) (m:List (List UInt8×Bool)),i+n=c.2.2.2.1.length->UF m (c.2.2.2.1.take i)->
  pY (IY c) ((i:Int),m)=some (if (List.range' i n).any (CH c.2.2.2.1)=true then .inr false else .inl ())
 |0,i,m,hi,_=>by
  have:i=c.2.2.2.1.length:=by omega
  subst this;refine tZ ?_;unfold IY;dsimp only;rw[if_neg (uR _)];rfl
 |n+1,i,m,hi,hm=>by
  have h:i<c.2.2.2.1.length:=by omega
  have he:=hc.ent _ (JG (d:=eD) h);have hl:=hc.len;have hst:IY c ((i:Int),m)=if CH c.2.2.2.1 i=true then some (.inr (.inr false)) else some (.inl (((i+1:Nat):Int),uK .str .bool (c.2.2.2.1.getD i eD).1 true m)):=by
   unfold IY;dsimp only;rw[if_pos (sQ h),if_pos (rO h),a6u,hm,aLZ _ he,if_pos vZ,if_pos (sJ (by omega))];rfl
  rw[aRz,List.any_cons];by_cases hb:CH c.2.2.2.1 i=true
  ·rw[if_pos hb] at hst;rw[hb,Bool.true_or,if_pos rfl];exact tZ hst
  ·rw[if_neg hb] at hst;rw[zT hst,aER hc n (i+1) _ (by omega) (by rw[aL1 (d:=eD) h];exact aEb hm _ _ rfl)];simp only[aQM] at hb;rw[hb,Bool.false_or]
theorem aL2 {c:C4}(hc:PR c):IZ c=some (uZ c):=by
 obtain⟨t1,t2⟩:=aEM _ hc.com.1 hc.com.2;have e2:=aEP _ hc.fld.1 hc.fld.2;have hlp:=aER hc c.2.2.2.1.length 0 [] (by omega) (fun x=>by rfl);rw[<-List.range_eq_range'] at hlp;have hlp':pY (IY c) ((0:Int),[])=_:=hlp;have a1:decide ((1000:Int)<(c.2.2.2.1.length:Int))= !decide ((c.2.2.2.1.length:Int)<=1000):=by rw[<-decide_not];exact aRy.2 (by omega)
 unfold IZ;rw[a5M,aPM,t1,t2,e2,if_pos vZ,if_pos vZ,hlp',a1];unfold uZ;show (if (((!uD c.1)||(!uY c.2.1))||(!uT c.2.2.1)||_)=true then some false else _)=_
 generalize uD c.1=b1;generalize uY c.2.1=b2;generalize uT c.2.2.1=b3;generalize decide ((c.2.2.2.1.length:Int)<=1000)=b4;generalize (List.range c.2.2.2.1.length).any (CH c.2.2.2.1)=b5;cases b1<;>cases b2<;>cases b3<;>cases b4<;>cases b5<;>rfl
theorem aL3 {es:List sY}{i:Nat}(h:i<es.length):decide ((PF es (es.getD i eD).1).1=(i:Int))= !((es.take i).any fun y=>decide (y.1=(es.getD i eD).1)):=by
 have hx:es.getD i eD=es[i]:=by rw[aQe,aPU h];rfl
 unfold PF;cases hf:es.findIdx? fun y=>decide (y.1=(es.getD i eD).1) with
 |none=>
  have:=aQR.1 hf es[i] (aQC h);rw[hx] at this;simp at this
 |some k=>
  obtain⟨hk,h1,h2⟩:=aQp.1 hf;simp only[aPQ,aQq] at h1 h2;show decide ((k:Int)=(i:Int))=_;rw[aQX,aPQ,aQf,aQx];have hki:k<=i:=by
   rcases aQ8 i k with hlt|hge
   ·exact absurd (aQk Prod.fst hx.symm) (h2 i hlt)
   ·exact hge
  constructor
  ·intro he x hxm;obtain⟨j,hj,rfl⟩:=aRa hxm;rw[aQc] at hj;rw[List.getElem_take];have:=h2 j (by omega);simpa using this
  ·intro hall;rcases aQ8 k i with hlt|hge
   ·have:=hall es[k] (by rw[aRK];exact⟨k,by omega,rfl⟩);simp [h1] at this
   ·omega
theorem aL4 (c:C4) (hc:PR c):IX c=some ((uD c.1&&uY c.2.1)&&uT c.2.2.1):=by
 unfold IX;rw[P9 _ hc.tag,aPM,aEL _ hc.com.1 hc.com.2,aEQ _ hc.fld.1 hc.fld.2,if_pos vZ,if_pos vZ];rfl
theorem aES {c:C4}(hc:PR c):DD c=some (uZ c):=by
 have hl:=hc.len;have h:=PM (f:=P4 c) (n:=c.2.2.2.1.length) (CH c.2.2.2.1) (fun _=>false) (fun i h=>by
  have he:=hc.ent _ (JG (d:=eD) h);obtain⟨u,v⟩:=aL0 _ he;unfold P4;rw[if_pos (sQ h),if_pos (rO h),a6u,UE c _ hl,aPM,if_pos (fun _=>rO h),u,if_pos vZ,v,aL3 h,if_pos (sJ (by omega)),Bool.not_not];rfl) (by
  unfold P4;rw[if_neg (uR _)])
 have a1:decide ((1000:Int)<(c.2.2.2.1.length:Int))= !decide ((c.2.2.2.1.length:Int)<=1000):=by rw[<-decide_not];exact aRy.2 (by omega)
 unfold DD;rw[aL4 c hc,aPM,h,PN,a1];unfold uZ;generalize ((uD c.1&&uY c.2.1)&&uT c.2.2.1)=b1;generalize decide ((c.2.2.2.1.length:Int)<=1000)=b2;generalize (List.range c.2.2.2.1.length).any (CH c.2.2.2.1)=b3;cases b1<;>cases b2<;>cases b3<;>rfl
def tV:Nat:=140737488351232
theorem aET {l:List (List UInt8)}(hl:l.length<=tV) (hx: ∀x∈l,x.length<=tV): ∀(m i:Nat) (n:Int),i+m=l.length->0<=n->n<=1125899906842624->
  ∃r,pY (GD l) (n,(i:Int))=some r/\n<=r/\r<=1125899906842624/\(r<1099511627776->∀x∈l.drop i,n+(x.length:Int)<=r)
 |0,i,n,hi,h0,h1=>by
  have:i=l.length:=by omega
  subst this;refine⟨n,tZ ?_,aQS _,h1,fun _ x hx=>by rw[aQz] at hx;cases hx⟩;unfold GD;dsimp only;rw[if_neg (by simp)]
 |m+1,i,n,hi,h0,h1=>by
  have h:i<l.length:=by omega
  by_cases hn:n<1099511627776
  ·have hxi:=hx _ (aQC h);unfold tV at hxi hl;have hst:GD l (n,(i:Int))=some (.inl (n+(l[i].length:Int),((i+1:Nat):Int))):=by
    unfold GD;dsimp only;rw[if_pos (by simp [h,hn]),if_pos (rO h),xB (t:= .str) h,if_pos (by unfold pA;omega),if_pos (by unfold pA;omega)];rfl
   obtain⟨r,e,e1,e2,e3⟩:=aET (by unfold tV;exact hl) hx m (i+1) (n+(l[i].length:Int)) (by omega) (by omega) (by omega);refine⟨r,by rw[zT hst,e],by omega,e2,fun hr x hxm=> ?_⟩;rw[aQa h] at hxm;rcases aP2.1 hxm with rfl|hxm
   ·omega
   ·have:=e3 hr x hxm;omega
  ·refine⟨n,tZ ?_,aQS _,h1,fun hr=>by omega⟩;unfold GD;dsimp only;rw[if_neg (by simp [hn])]
theorem aEU {l:List qU}(hl:l.length<=tV) (hx: ∀x∈l,x.1.length<=tV/\x.2.1.length<=tV): ∀(m i:Nat) (n:Int),i+m=l.length->0<=n->n<=1125899906842624->
  ∃r,pY (GE l) (n,(i:Int))=some r/\n<=r/\r<=1125899906842624/\(r<1099511627776->∀x∈l.drop i,n+(x.1.length:Int)+(x.2.1.length:Int)<=r)
 |0,i,n,hi,h0,h1=>by
  have:i=l.length:=by omega
  subst this;refine⟨n,tZ ?_,aQS _,h1,fun _ x hx=>by rw[aQz] at hx;cases hx⟩;unfold GE;dsimp only;rw[if_neg (by simp)]
 |m+1,i,n,hi,h0,h1=>by
  have h:i<l.length:=by omega
  by_cases hn:n<1099511627776
  ·have hxi:=hx _ (aQC h);unfold tV at hxi hl;have hst:GE l (n,(i:Int))=some (.inl (n+(l[i].1.length:Int)+(l[i].2.1.length:Int),((i+1:Nat):Int))):=by
    unfold GE;dsimp only;rw[if_pos (by simp [h,hn]),if_pos (rO h),xB (t:= .pair .str (.pair .str .unit)) h,if_pos (by unfold pA;omega),if_pos (rO h),if_pos (by unfold pA;omega),if_pos (by unfold pA;omega)];rfl
   obtain⟨r,e,e1,e2,e3⟩:=aEU (by unfold tV;exact hl) hx m (i+1) (n+(l[i].1.length:Int)+(l[i].2.1.length:Int)) (by omega) (by omega) (by omega);refine⟨r,by rw[zT hst,e],by omega,e2,fun hr x hxm=> ?_⟩;rw[aQa h] at hxm;rcases aP2.1 hxm with rfl|hxm
   ·omega
   ·have:=e3 hr x hxm;omega
  ·refine⟨n,tZ ?_,aQS _,h1,fun hr=>by omega⟩;unfold GE;dsimp only;rw[if_neg (by simp [hn])]
def DM (l:List (List UInt8)):Prop:=l.length<=6000/\∀x∈l,x.length<=6000
def H7 (l:List qU):Prop:=l.length<=6000/\∀x∈l,x.1.length<=6000/\x.2.1.length<=6000
theorem a6v {l:List (List UInt8)}{f:List qU}(hl:l.length<=tV) (hx: ∀x∈l,x.length<=tV) (hf:f.length<=tV) (hy: ∀x∈f,x.1.length<=tV/\x.2.1.length<=tV):
  ∃r,xI l f=some r/\0<=r/\r<=1125899906842624/\(r<=6000->DM l/\H7 f):=by
 have hl':=hl;have hf':=hf;unfold tV at hl' hf';obtain⟨r,e,e1,e2,e3⟩:=aET hl hx l.length 0 ((l.length:Int)+(f.length:Int)) (by omega) (by omega) (by omega);obtain⟨r',k,k1,k2,k3⟩:=aEU hf hy f.length 0 r (by omega) (by omega) e2;have e':pY (GD l) ((l.length:Int)+(f.length:Int),(0:Int))=some r:=e;have k':pY (GE f) (r,(0:Int))=some r':=k;refine⟨r',?_,by omega,k2,fun hr=>⟨⟨by omega,fun x hxm=> ?_⟩,⟨by omega,fun x hxm=> ?_⟩⟩⟩
 ·unfold xI;rw[if_pos (by unfold pA;omega),e'];unfold rC;rw[aPM,k',aPM]
 ·have:=e3 (by omega) x (by rw[aQL];exact hxm);omega
 ·have:=k3 (by omega) x (by rw[aQL];exact hxm);omega
structure a6w (x:sY):Prop where
 id:x.1.length<=tV
 src:x.2.1.length<=tV
 tgt:x.2.2.1.length<=tV
 com:x.2.2.2.1.length<=tV/\∀y∈x.2.2.2.1,y.length<=tV
 flg:x.2.2.2.2.1.length<=tV/\∀y∈x.2.2.2.2.1,y.length<=tV
 fld:x.2.2.2.2.2.2.1.length<=tV/\∀y∈x.2.2.2.2.2.2.1,y.1.length<=tV/\y.2.1.length<=tV
structure H8 (x:sY):Prop where
 id:x.1.length<=6000
 src:x.2.1.length<=6000
 tgt:x.2.2.1.length<=6000
 com:DM x.2.2.2.1
 flg:DM x.2.2.2.2.1
 fld:H7 x.2.2.2.2.2.2.1
theorem aL5 (x:sY) (h:a6w x): ∃b:Bool,L7 x=some ()/\
  ((decide ((((x.1.length:Int)+(x.2.1.length:Int))+(x.2.2.1.length:Int))<=(6000:Int)))&&(decide (((val (xI x.2.2.2.1 x.2.2.2.2.2.2.1))+(val (xI x.2.2.2.2.1 ([]:List pP))))<=(6000:Int))))=b/\(b=true->H8 x):=by
 obtain⟨r,e,e1,e2,e3⟩:=a6v h.com.1 h.com.2 h.fld.1 h.fld.2;obtain⟨r',k,k1,k2,k3⟩:=a6v (f:=[]) h.flg.1 h.flg.2 (by unfold tV;simp) (fun x hx=>by cases hx);have a1:=h.id;have a2:=h.src;have a3:=h.tgt;unfold tV at a1 a2 a3;refine⟨_,?_,rfl,fun hb=> ?_⟩
 ·unfold L7;rw[e,k,if_pos (by unfold pA;omega),if_pos (by unfold pA;omega),if_pos vZ,if_pos vZ,if_pos (fun _=>by show pA (r+r');unfold pA;omega)]
 ·rw[e,k] at hb;simp only[aPT,aPQ] at hb;obtain⟨h1,h2⟩:=hb;have h2:r+r'<=6000:=h2;obtain⟨p,q⟩:=e3 (by omega);obtain⟨p',_⟩:=k3 (by omega);exact⟨by omega,by omega,by omega,p,p',q⟩
structure UM (c:C4):Prop where
 tag:c.1.length<=tV
 com:c.2.1.length<=tV/\∀y∈c.2.1,y.length<=tV
 fld:c.2.2.1.length<=tV/\∀y∈c.2.2.1,y.1.length<=tV/\y.2.1.length<=tV
 ent: ∀x∈c.2.2.2.1,a6w x
structure FC (c:C4):Prop where
 tag:c.1.length<=100
 com:DM c.2.1
 fld:H7 c.2.2.1
 len:c.2.2.2.1.length<=1000
 ent: ∀x∈c.2.2.2.1,H8 x
theorem aEV {c:C4}(hc:UM c) (hl:c.2.2.2.1.length<=12): ∀(n i:Nat),i+n=c.2.2.2.1.length->
  ∃r,pY (IT c) (i:Int)=some r/\(r= .inr false\/(r= .inl ()/\∀x∈c.2.2.2.1.drop i,H8 x))
 |0,i,hi=>by
  have:i=c.2.2.2.1.length:=by omega
  subst this;refine⟨.inl (),tZ ?_,.inr ⟨rfl,fun x hx=>by rw[aQz] at hx;cases hx⟩⟩;unfold IT;rw[if_neg (uR _)]
 |n+1,i,hi=>by
  have h:i<c.2.2.2.1.length:=by omega
  obtain⟨b,e1,e2,e3⟩:=aL5 _ (hc.ent _ (aQC h));have hst:IT c (i:Int)=if (!b)=true then some (.inr (.inr false)) else some (.inl ((i+1:Nat):Int)):=by
   unfold IT;rw[if_pos (sQ h),if_pos (rO h),xB (t:=rI) h,e1,aPM,e2,if_pos (sJ (by omega))];rfl
  cases b with
  |false=>exact⟨_,tZ hst,.inl rfl⟩
  |true=>
   obtain⟨r,k,k2⟩:=aEV hc hl n (i+1) (by omega);refine⟨r,by rw[zT hst,k],k2.imp id fun⟨a,b⟩=>⟨a,fun x hx=> ?_⟩⟩;rw[aQa h] at hx;rcases aP2.1 hx with rfl|hx
   ·exact e3 rfl
   ·exact b x hx
theorem aL6 {c:C4}(hc:UM c): ∃b,IU c=some b/\(b=true->FC c):=by
 obtain⟨r,e,e1,e2,e3⟩:=a6v hc.com.1 hc.com.2 hc.fld.1 hc.fld.2;unfold IU;rw[e,if_pos vZ];by_cases hb:(((decide ((100:Int)<(c.1.length:Int)))||(decide ((6000:Int)<(val (some r)))))||(decide ((12:Int)<(c.2.2.2.1.length:Int))))=true
 ·rw[if_pos hb];exact⟨false,rfl,fun h=>by cases h⟩
 ·rw[if_neg hb];simp only[aQT,aPQ] at hb;have hr: ¬(6000:Int)<r:=fun h=>hb (.inl (.inr h));obtain⟨p,q⟩:=e3 (by omega);obtain⟨r',k,k2⟩:=aEV hc (by omega) c.2.2.2.1.length 0 (by omega);have k':pY (IT c) (0:Int)=some r':=k;rw[k'];rcases k2 with rfl|⟨rfl,k3⟩
  ·exact⟨false,rfl,fun h=>by cases h⟩
  ·exact⟨true,rfl,fun _=>⟨by omega,p,q,by omega,by rw[aQL] at k3;exact k3⟩⟩
theorem H9 {l:List UInt8}(h:l.length<=6000):pK l:=by unfold pK;omega
theorem a6x {l:List (List UInt8)}(h:DM l):pK l/\∀y∈l,pK y:=⟨by have:=h.1;unfold pK;omega,fun y hy=>H9 (h.2 y hy)⟩
theorem aEW {l:List qU}(h:H7 l):pK l/\∀y∈l,PQ y:=⟨by have:=h.1;unfold pK;omega,fun y hy=>⟨H9 (h.2 y hy).1,H9 (h.2 y hy).2⟩⟩
theorem H8.fitP {x:sY}(h:H8 x):UL x:=⟨H9 h.id,H9 h.src,H9 h.tgt,a6x h.com,a6x h.flg,aEW h.fld⟩
theorem FC.fitP {c:C4}(h:FC c):PR c:=⟨H9 (by have:=h.tag;omega),a6x h.com,aEW h.fld,by have:=h.len;omega,fun x hx=>(h.ent x hx).fitP⟩
theorem aEX {σ ρ α:Type}{f:σ->Option (σ⊕ρ)}(st:Int->List α->σ) (out:List α->ρ) {n M B:Nat}(g:Nat->List α) (hg: ∀i,i<n->(g i).length<=B)
  (hf: ∀(i:Nat) s,i<n->s.length+B<=M->f (st i s)=some (.inl (st ((i:Int)+1) (s++g i)))) (he: ∀s,f (st n s)=some (.inr (out s))):
  ∀(k i:Nat) (s:List α),i+k=n->s.length+k*B<=M->pY f (st i s)=some (out (s++(List.range' i k).flatMap g))
 |0,i,s,hi,_=>by
  have:i=n:=by omega
  subst this;rw[tZ (he s)];simp
 |k+1,i,s,hi,hM=>by
  rw[aQU] at hM;have hgi:=hg i (by omega);rw[zT (hf i s (by omega) (by omega)),show ((i:Int)+1)=((i+1:Nat):Int) by omega,aEX st out g hg hf he k (i+1) (s++g i) (by omega) (by rw[aPP];omega),aRz,aRb,aPW]
theorem aEY {α:Type}{g:Nat->List α}{B:Nat}: ∀(k i:Nat),(∀j,i<=j->j<i+k->(g j).length<=B)->((List.range' i k).flatMap g).length<=k*B
 |0,i,_=>by simp
 |k+1,i,h=>by
  rw[aRz,aRb,aPP,aQU];have h1:=aEY k (i+1) fun j h1 h2=>h j (by omega) (by omega);have h2:=h i (by omega) (by omega);omega
theorem PT {σ ρ α:Type}{f:σ->Option (σ⊕ρ)}(st:Int->List α->σ) (out:List α->ρ) {n M B:Nat}(g:Nat->List α) (hg: ∀i,i<n->(g i).length<=B) (s:List α) (hM:s.length+n*B<=M)
  (hf: ∀(i:Nat) s,i<n->s.length+B<=M->f (st i s)=some (.inl (st ((i:Int)+1) (s++g i)))) (he: ∀s,f (st n s)=some (.inr (out s))):
  pY f (st 0 s)=some (out (s++(List.range' 0 n).flatMap g)):=aEX st out g hg hf he n 0 s (by omega) hM
theorem UN {α β:Type}{l:List α}{d:α}(h:α->List β):(List.range' 0 l.length).flatMap (fun i=>h (l.getD i d))=l.flatMap h:=by
 have e:(List.range' 0 l.length).map (fun i=>l.getD i d)=l:=by
  apply List.ext_getElem
  ·simp
  ·intro i h1 h2;simp [aQe,h2]
 conv=>rhs;rw[<-e]
 rw[List.flatMap_map]
theorem HA {α β:Type}{l:List α}{h:α->List β}{B:Nat}(hb: ∀x∈l,(h x).length<=B):(l.flatMap h).length<=l.length*B:=by
 induction l with
 |nil=>simp
 |cons x l ih=>
  rw[aRb,aPP,aPR,aQU];have h1:=hb x aP8;have h2:=ih fun y hy=>hb y (aP1 _ hy);omega
def uB (n b:Nat) (first:Bool):List UInt8:=(EU (n:Int) (b:Int) first).getD []
theorem aL7:((List.range 256).all fun b=>[true,false].all fun f=>decide (EU 3 (b:Int) f=some (uB 3 b f))&&(decide (TN 3 (b:Int) f=some (uB 3 b f))&&decide ((uB 3 b f).length<=6)))=true:=by kernel_rfl
theorem aL8:((List.range 256).all fun b=>[true,false].all fun f=>decide (EU 1 (b:Int) f=some (uB 1 b f))&&(decide (TN 1 (b:Int) f=some (uB 1 b f))&&decide ((uB 1 b f).length<=6)))=true:=by kernel_rfl
theorem aEZ {n b:Nat}(hn:n=1\/n=3) (hb:b<256) (f:Bool):EU (n:Int) (b:Int) f=some (uB n b f)/\TN (n:Int) (b:Int) f=some (uB n b f)/\(uB n b f).length<=6:=by
 have hf:f∈[true,false]:=by cases f<;>simp
 rcases hn with rfl|rfl
 ·have h:=aQt.1 (aQt.1 aL8 b (by simpa using hb)) f hf;simpa using h
 ·have h:=aQt.1 (aQt.1 aL7 b (by simpa using hb)) f hf;simpa using h
def JH (n:Nat) (s:List UInt8) (i:Nat):List UInt8:=uB n (s.getD i 0).toNat (decide (i=0))
def rF (n:Nat) (s:List UInt8):List UInt8:=(List.range' 0 s.length).flatMap (JH n s)
theorem aE0 {n:Nat}(hn:n=1\/n=3) (s:List UInt8) (i:Nat):(JH n s i).length<=6:=(aEZ hn (UInt8.toNat_lt _) _).2.2
theorem FD {n:Nat}(hn:n=1\/n=3) (s:List UInt8):(rF n s).length<=6*s.length:=by
 have:=aEY (g:=JH n s) (B:=6) s.length 0 fun j _ _=>aE0 hn s j;unfold rF;omega
theorem aL9 {s:List UInt8}{i:Nat}:pZ s (i:Int)=((s.getD i 0).toNat:Int):=by unfold pZ;rw[aQv]
theorem aMa {i:Nat}:decide ((i:Int)=0)=decide (i=0):=aRy.2 (by omega)
theorem UO {l:List Nat}{g:Nat->List UInt8}:l.flatMap (fun i=>rK (g i))=rK (l.flatMap g):=by
 induction l with
 |nil=>rfl
 |cons x l ih=>rw[aRb,aRb,AS,ih]
theorem A4 (l:List UInt8):(rK l).length=l.length:=by simp [rK]
theorem aMb {n:Nat}(hn:n=1\/n=3) {s:List UInt8}(hs:pK s):DB (n:Int) s=some (rF n s):=by
 unfold pK at hs;have hn4: ¬decide ((n:Int)=4)=true:=by simp;omega
 have h:=PT (f:=OQ (n:Int) s) (fun i b=>(i,b)) (fun b=>b) (n:=s.length) (M:=10000000000000) (B:=6) (fun i=>rK (JH n s i)) (fun i _=>by rw[A4];exact aE0 hn s i) [] (by simp;omega) (fun i b hi hM=>by
  obtain⟨e1,_,e3⟩:=aEZ hn (UInt8.toNat_lt (s.getD i 0)) (decide (i=0));unfold OQ;dsimp only;rw[if_pos (sQ hi),if_neg hn4,if_pos (rO hi),aL9,aMa,e1,aPM];unfold xH;rw[if_pos (by dsimp only;omega),aPM,if_pos (sJ (by omega))];rfl) (fun b=>by
  unfold OQ;dsimp only;rw[if_neg (uR _)])
 unfold DB;rw[if_neg (by simp;omega),h,UO];unfold rC;rw[aPM,List.nil_append,LX];rfl
def FE (h:List UInt8) (l:List (List UInt8)) (t:List UInt8):List UInt8:=h++(l.flatten++t)
theorem aE1 {f:(Int×List UInt8)->List Int->Option (List Int⊕List UInt8)}(hf: ∀it b,b.length+it.2.length<=140737488355328->f it b=some (.inl (b++rK it.2))): ∀(l:List (Int×List UInt8)) (b:List Int),
  b.length+((l.map (·.2)).flatten).length<=140737488355328->vI f l b=some (.inl (b++rK (l.map (·.2)).flatten))
 |[],b,_=>by simp [vI,rK]
 |it::l,b,h=>by
  simp only[aQO,aQP,aPP] at h;unfold vI;rw[hf it b (by omega),aPM];show vI f l _=_;rw[aE1 hf l _ (by rw[aPP,A4];omega)];simp only[aQO,aQP,AS,aPW]
theorem aE2 (d:G4):((AK d).map (·.2)).flatten=FE d.1 d.2.1 d.2.2.1:=by
 unfold AK FE;have e:(List.range d.2.1.length).map (fun j=>d.2.1.getD j [])=d.2.1:=by
  apply List.ext_getElem
  ·simp
  ·intro i h1 h2;simp [aQe,h2]
 have e2:(((List.range d.2.1.length).map fun j:Nat=>((j:Int)+1,d.2.1.getD j [])).map (·.2))=d.2.1:=by
  rw[List.map_map];exact e
 simp only[aQO,List.map_append,List.map_nil,aQP,List.flatten_append,List.flatten_nil,List.append_nil,e2,aPW]
theorem aE3 (d:G4) (hl:d.2.1.length<=900000) (hb:(FE d.1 d.2.1 d.2.2.1).length<=140737488355328):IM d=some (FE d.1 d.2.1 d.2.2.1):=by
 have h:=aE1 (f:=TK) (fun it b h=>by
  unfold TK xH;rw[if_pos h,aPM]) (AK d) [] (by rw[aE2];simpa using hb)
 unfold IM;rw[if_pos (by omega),h,aE2];unfold s3;dsimp only;rw[aPM];simp only[List.nil_append,LX]
def yA (n:Nat):Bool->List UInt8->List UInt8
 |_,[]=>[]
 |f,b::t=>uB n b.toNat f++yA n false t
theorem aE4 (n:Nat): ∀(s:List UInt8) (p:List UInt8),p≠[]->(List.range' p.length s.length).flatMap (JH n (p++s))=yA n false s
 |[],p,_=>by simp [yA]
 |b::t,p,hp=>by
  have hl:0<p.length:=aRw.2 hp;rw[aPR,aRz,aRb];have h1:JH n (p++b::t) p.length=uB n b.toNat false:=by
   unfold JH;rw[show decide (p.length=0)=false by simp;exact hp];congr 2;rw[aQe,aPX (Nat.le_refl _),aRQ];rfl
  have h2:=aE4 n t (p++[b]) (by simp);rw[aPP,aQF,aPW,aQ1] at h2;rw[h1,h2];rfl
theorem PU (n:Nat) (s:List UInt8):rF n s=yA n true s:=by
 cases s with
 |nil=>rfl
 |cons b t=>
  unfold rF;rw[aPR,aRz,aRb];have h2:=aE4 n t [b] (by simp);rw[aQF,aQ1] at h2;rw[aQo,h2];rfl
theorem aMc {e:List UInt8}(t:List UInt8) (h:(wO e).2=e.length) (h0:e≠[]):wO (e++t)=wO e:=by
 match e,h,h0 with
 |[a],h,_=>simp [wO] at h
 |a::c::u,h,_=>
  show wO (a::c::(u++t))=wO (a::c::u);simp only[wO] at h⊢;split
  ·rfl
  ·rename_i h1;rw[if_neg h1] at h;split
   ·rfl
   ·rename_i h2;rw[if_neg h2] at h;split
    ·rfl
    ·rename_i h3;rw[if_neg h3] at h;split
     ·rfl
     ·rename_i h4;rw[if_neg h4] at h;by_cases hx:c=120/\2<=u.length
      ·rw[if_pos hx,if_pos ⟨hx.1,by rw[aPP];omega⟩,aRl hx.2]
      ·rw[if_neg hx] at h⊢;by_cases hu:c=117/\4<=u.length
       ·have: ¬(c=120/\2<=(u++t).length):=fun hh=>by
         have:=hu.1.symm.trans hh.1;exact absurd this (by decide)
        rw[if_neg this,if_pos hu,if_pos ⟨hu.1,by rw[aPP];omega⟩,aRl hu.2]
       ·rw[if_neg hu] at h;simp at h
theorem aMd {n:Int}{e:List UInt8}(t:List UInt8) (h:(sK n e).2=e.length) (h0:e≠[]):sK n (e++t)=sK n e:=by
 match e,h,h0 with
 |b::u,h,_=>
  show sK n (b::(u++t))=_;by_cases hb:b=92
  ·rw[LV hb] at h⊢;rw[LV hb];exact aMc (e:=b::u) t h (by simp)
  ·by_cases hk:yS n b=true
   ·rw[J6 hb hk,J6 hb hk]
   ·rw[LW hb hk,LW hb hk]
theorem aMe:((List.range 256).all fun b=>[true,false].all fun f=>decide (sK 3 (uB 3 b f)=([b.toUInt8],(uB 3 b f).length))&&(decide (uB 3 b f≠[])&&decide (rS 34 (uB 3 b f++[34])=some (uB 3 b f).length)))=true:=by kernel_rfl
theorem aMf:((List.range 256).all fun b=>[true,false].all fun f=>decide (sK 1 (uB 1 b f)=([b.toUInt8],(uB 1 b f).length))&&(decide (uB 1 b f≠[])&&decide (rS 61 (uB 1 b f++[61])=some (uB 1 b f).length)))=true:=by kernel_rfl
def M6 (n:Nat):UInt8:=if n=1 then 61 else 34
theorem aE5 {n:Nat}(hn:n=1\/n=3) (b:UInt8) (f:Bool):sK (n:Int) (uB n b.toNat f)=([b],(uB n b.toNat f).length)/\uB n b.toNat f≠[]/\rS (M6 n) (uB n b.toNat f++[M6 n])=some (uB n b.toNat f).length:=by
 have hf:f∈[true,false]:=by cases f<;>simp
 have hb:b.toNat<256:=UInt8.toNat_lt b;have hbb:b.toNat.toUInt8=b:=by simp
 rcases hn with rfl|rfl
 ·have h:=aQt.1 (aQt.1 aMf b.toNat (by simpa using hb)) f hf;simp only[aPT,aPQ,hbb] at h;exact⟨h.1,h.2.1,h.2.2⟩
 ·have h:=aQt.1 (aQt.1 aMe b.toNat (by simpa using hb)) f hf;simp only[aPT,aPQ,hbb] at h;exact⟨h.1,h.2.1,h.2.2⟩
theorem aE6 {n:Nat}(hn:n=1\/n=3): ∀(s:List UInt8) (f:Bool) (k:Nat),(yA n f s).length<=k->wC (n:Int) k (yA n f s)= .inl s
 |[],f,k,_=>by
  cases k<;>rfl
 |b::t,f,k,hk=>by
  obtain⟨h1,h2,_⟩:=aE5 hn b f;unfold yA at hk⊢;obtain⟨e,he⟩: ∃e,uB n b.toNat f=e:=⟨_,rfl⟩;rw[he] at h1 h2 hk⊢;have hp:=aMd (yA n false t) (by rw[h1]) h2;rw[h1] at hp;rw[aPP] at hk;have hl:0<e.length:=aRw.2 h2;obtain⟨k',rfl⟩: ∃k',k=k'+1:=⟨k-1,by omega⟩;obtain⟨a,u,rfl⟩: ∃a u,e=a::u:=by
   cases e with
   |nil=>exact absurd rfl h2
   |cons a u=>exact⟨a,u,rfl⟩
  rw[List.cons_append] at hp⊢;unfold wC;rw[hp,if_neg (by simp)];dsimp only;rw[<-List.cons_append,aRA,aE6 hn t false k' (by omega)];rfl
theorem aE7 {n:Nat}(hn:n=1\/n=3) (s:List UInt8):xQ (n:Int) (rF n s)=(s,0,0):=by
 unfold xQ;rw[PU,aE6 hn s true _ (Nat.le_refl _)]
theorem a6y {d:UInt8}: ∀(m:Nat) (e t:List UInt8),e.length<=m->rS d (e++[d])=some e.length->rS d (e++t)=(rS d t).map (· +e.length)
 |_,[],t,_,_=>by simp
 |0,_::_,_,h,_=>by simp at h
 |m+1,b::u,t,hm,h=>by
  rw[List.cons_append] at h⊢;rw[aPR] at hm;by_cases hb:b=d
  ·rw[PA hb] at h;simp at h
  ·by_cases h9:b=92
   ·rw[PB hb h9] at h;rw[PB hb h9];cases u with
    |nil=>simp [U5] at h
    |cons c v=>
     simp only[List.cons_append,aRx,aQL] at h⊢;rw[aPR] at hm;have h':rS d (v++[d])=some v.length:=by
      cases hq:rS d (v++[d]) with
      |none=>rw[hq] at h;cases h
      |some k=>rw[hq] at h;simp at h;rw[h]
     rw[a6y m v t (by omega) h',Option.map_map];congr 1
   ·rw[J4 hb h9] at h;rw[J4 hb h9];have h':rS d (u++[d])=some u.length:=by
     cases hq:rS d (u++[d]) with
     |none=>rw[hq] at h;cases h
     |some k=>rw[hq] at h;simp at h;rw[h]
    rw[a6y m u t (by omega) h',Option.map_map];congr 1
theorem a6z {n:Nat}(hn:n=1\/n=3): ∀(s:List UInt8) (f:Bool) (t:List UInt8),rS (M6 n) (yA n f s++t)=(rS (M6 n) t).map (· +(yA n f s).length)
 |[],f,t=>by simp [yA]
 |b::u,f,t=>by
  obtain⟨_,_,h3⟩:=aE5 hn b f;unfold yA;rw[aPW,a6y _ _ _ (Nat.le_refl _) h3,a6z hn u false t,Option.map_map];congr 1;funext k;simp only[Function.comp,aPP];omega
theorem aMg {n:Nat}(hn:n=1\/n=3) (s z:List UInt8):rS (M6 n) (rF n s++M6 n::z)=some (rF n s).length:=by
 rw[PU,a6z hn,PA rfl];simp
set_option maxRecDepth 1000000
def q3 (s:List UInt8):List UInt8:=([34]++rF 3 s)++[34]
theorem M7 {l:List UInt8}{n:Nat}(h:l.length≤n) (hn:n≤9223372036854775807):(l.length:Int)≤9223372036854775807:=by omega
theorem UP {l:List (List UInt8)}(h:DM l) {i:Nat}(hi:i<l.length):(l.getD i []).length≤6000:=h.2 _ (JG hi)
theorem aE8 {l:List qU}(h:H7 l) {i:Nat}(hi:i<l.length):(l.getD i fD).1.length≤6000∧(l.getD i fD).2.1.length≤6000:=h.2 _ (JG hi)
theorem a6A {n:Int}(h0:0≤n) (h1:n≤4):(pQ .str vV n).length≤10:=by
  have:n=0∨n=1∨n=2∨n=3∨n=4:=by omega
  rcases this with rfl|rfl|rfl|rfl|rfl<;>decide
theorem aMh {α β:Type}{f:α→β}{l:List α}:l.flatMap (fun x=>[f x])=l.map f:=by
  induction l with
  |nil=>rfl
  |cons x l ih=>rw[aRb,ih];rfl
theorem a6B {c:C4}(hok:uZ c=true) {i:Nat}(hi:i<c.2.2.2.1.length):wZ (c.2.2.2.1.getD i eD)=true:=by
  unfold uZ at hok;simp only[aPT,aQf,aQx,aRo] at hok;have:=hok.2.2 i hi;unfold CH at this;simp only[aQT,aQf,not_or,Bool.not_eq_false] at this;exact this.2
theorem UQ {x:sY}(h:wZ x=true):0≤x.2.2.2.2.2.1∧x.2.2.2.2.2.1≤4:=by
  unfold wZ at h;simp only[aPT,aPQ] at h;exact h.1.2
theorem UR {x y b:UInt8}{t:List UInt8}(h:b≠x): ¬sW x y (b::t)=true:=by
 cases t with
 |nil=>simp [sW]
 |cons c u=>simp [sW,h]
def US (r:List UInt8):Prop:= ∀b t,r=b::t->AT b≠true/\b≠47
theorem aE9: ∀(g r:List UInt8),(∀b∈g,AT b=true)->US r->G (g++r)=(g.length,true)
 |[],r,_,hr=>by
  cases r with
  |nil=>rfl
  |cons b t=>
   obtain⟨h1,h2⟩:=hr b t rfl;rw[List.nil_append,a54 h1 (UR h2) (UR h2)];rfl
 |b::g,r,hg,hr=>by
  rw[List.cons_append,a52 (hg b aP8),aE9 g r (fun x hx=>hg x (aP1 _ hx)) hr];simp only[J7,aPR,aQh,and_true];omega
theorem aMi {g r:List UInt8}(hg: ∀b∈g,AT b=true) (hr:US r):DI (g++r)=((zE r).1,(zE r).2.1,g.length,g.length+(zE r).2.2):=by
 unfold DI;rw[aE9 g r hg hr];simp only[aRr,aRA]
structure At (s:List UInt8) (P:Nat) (l:List UInt8):Prop where
 le:P<=s.length
 eq:s.drop P=l
theorem At.tok {s:List UInt8}{P:Nat}{g r x:List UInt8}{k:Int}{m:Nat}(h:At s P (g++r)) (hg: ∀b∈g,AT b=true) (hr:US r) (ht:zE r=(k,x,m)):kS s P=k/\xS s P=x/\At s (nS s P) (r.drop m):=by
 have e:=aMi hg hr;rw[ht,<-h.eq] at e;refine⟨?_,?_,(aK6 h.le).2,?_⟩
 ·unfold kS;rw[e]
 ·unfold xS;rw[e]
 ·unfold nS;rw[e];dsimp only;rw[<-aQ5,h.eq,<-aQ5,aRA]
theorem aMj {x z:List UInt8}(hx:rR x=true):zE (q3 x++z)=(1,x,(q3 x).length):=by
 have e1:q3 x++z=34::(rF 3 x++34::z):=by simp [q3]
 have e2:(q3 x).length=(rF 3 x).length+2:=by simp [q3]
 have h1:rS 34 (rF 3 x++34::z)=some (rF 3 x).length:=aMg (n:=3) (.inr rfl) x z;have h2:xQ 3 (rF 3 x)=(x,0,0):=aE7 (n:=3) (.inr rfl) x;rw[e1,e2,aD8 (by decide) rfl];unfold LZ;rw[h1];dsimp only;rw[aRd,h2,if_neg (by simp [hx])]
theorem aMk (x z:List UInt8):US (q3 x++z):=by
 intro b t h;have:q3 x++z=34::(rF 3 x++34::z):=by simp [q3]
 rw[this] at h;cases h;exact⟨by decide,by decide⟩
theorem At.str {s:List UInt8}{P:Nat}{g x z:List UInt8}(h:At s P (g++(q3 x++z))) (hg: ∀b∈g,AT b=true) (hx:rR x=true):kS s P=1/\xS s P=x/\At s (nS s P) z:=by
 obtain⟨h1,h2,h3⟩:=h.tok hg (aMk x z) (aMj hx);rw[aRA] at h3;exact⟨h1,h2,h3⟩
def UT (w:List UInt8):Bool:=w.all J8&&(match w with|[]=>false|b::_=>F5 b.toNat)
theorem aMl {b:UInt8}(h:wW b.toNat=false):J8 b=true:=by
 unfold wW at h;unfold J8 a57 F5;simp only[aRq,aQ6,aPT,aQT,aPQ] at h⊢;omega
theorem aFa {x:List UInt8}(h:sC x=true):UT x=true:=by
 cases x with
 |nil=>cases h
 |cons b t=>
  unfold sC at h;simp only[aPT,aQf,aQx,aQM] at h;obtain⟨⟨_,h1⟩,h2⟩:=h;have hb:F5 b.toNat=true/\J8 b=true:=by
   unfold xN at h1;unfold J8 a57 F5;simp only[aPT,aQT,aPQ] at h1⊢;omega
  unfold UT;rw[aPT,List.all_cons,aPT];exact⟨⟨hb.2,aQt.2 fun c hc=>aMl (h2 c hc)⟩,hb.1⟩
theorem aMm {l:List (List UInt8)}{x:List UInt8}(h: ∀y∈l,y<x):DJ l x=l++[x]:=by
 have hk:vN l x=l.length:=by
  unfold vN;rw[aQR.2 fun y hy=>by rw[AU];simpa using h y hy];rfl
 unfold DJ;rw[hk,List.take_length,aQz,List.append_nil]
theorem aMn {l:List qU}{n v:List UInt8}(h: ∀y∈l,y.1<n):BG l n v=l++[(n,(v,()))]:=by
 have h1:y7 l n=none:=by
  unfold y7;rw[aQR];intro y hy;have:=h y hy;simp only[aQq];intro he;rw[he] at this;exact List.lt_irrefl _ this
 have hk:yQ l n=l.length:=by
  unfold yQ;rw[aQR.2 fun y hy=>by rw[AU];simp [h y hy]];rfl
 unfold BG;rw[h1,hk,List.take_length,aQz,List.append_nil];rfl
theorem aMo {n:Int}(h0:0<=n) (h4:n<=4):vW (pQ .str vV n)=n:=by
 have:n=0\/n=1\/n=2\/n=3\/n=4:=by omega
 rcases this with rfl|rfl|rfl|rfl|rfl<;>decide
theorem aFb {l:List UInt8}(h: ∀b∈l,b.toNat<128):Lib.validD l=true:=by
 rw[Lib.validD_ascii l.length l (fun b hb=>h b (List.mem_of_mem_take hb)),aQz];rfl
theorem aMp {b:UInt8}(h:wW b.toNat=false):b.toNat<128:=by
 unfold wW at h;simp only[aRq,aQ6,aPT,aPQ] at h;omega
theorem JI {x:List UInt8}(h:sC x=true):rR x=true:=by
 cases x with
 |nil=>cases h
 |cons b t=>
  unfold sC at h;simp only[aPT,aQf,aQx,aQM,aQq] at h;obtain⟨⟨h0,h1⟩,h2⟩:=h;unfold rR;rw[aPT,aPQ];refine⟨by simp only[aPR];omega,aFb fun c hc=> ?_⟩;rcases aP2.1 hc with rfl|hc
  ·unfold xN at h1;simp only[aPT,aPQ] at h1;omega
  ·exact aMp (h2 c hc)
theorem a6C {x:List UInt8}(h:uD x=true):rR x=true:=by
 unfold uD at h;simp only[aPT,aQf,aQx,aQM,aPQ] at h;obtain⟨h0,h1,h2⟩:=h;unfold rR;rw[aPT,aPQ];refine⟨by omega,aFb fun c hc=> ?_⟩;have:=h0 c hc;unfold J2 at this;simp only[aRq,aQ6,aPT,aQZ,aPQ,aQq] at this;omega
theorem M8 {l:List (List UInt8)}(h:uY l=true):l.length<=20/\∀x∈l,rR x=true:=by
 unfold uY at h;simp only[aPT,aQf,aQx,aPQ,aQM,aQ6] at h;exact⟨by omega,fun x hx=>by simpa using h.2 x hx⟩
theorem aFc {α:Type}{r:α->α->Prop}(tr: ∀a b c,r a b->r b c->r a c) {l:List α}(h: ∀(i:Nat) (hi:i+1<l.length),r l[i] l[i+1]):l.Pairwise r:=by
 rw[aRe];intro i j hi hj hij;obtain⟨k,rfl⟩: ∃k,j=i+1+k:=⟨j-i-1,by omega⟩
 induction k with
 |zero=>exact h i hj
 |succ k ih=>exact tr _ _ _ (ih (by omega) (by omega)) (h (i+1+k) hj)
theorem AV {α:Type}{l:List α}{i:Nat}{d:α}(h:i<l.length):l.getD i d=l[i]:=by
 rw[aQe,aPU h];rfl
theorem UU {l:List (List UInt8)}(h:zG l=true):l.length<=20/\(∀x∈l,sC x=true)/\l.Pairwise (· < ·):=by
 unfold zG at h;simp only[aPT,aQf,aQx,aPQ,aRo,aQM] at h;obtain⟨h1,h2⟩:=h;unfold PO at h1;simp only[aQZ,aRq,aQ6,aQq] at h1;refine⟨by omega,fun x hx=> ?_,aFc (r:=fun a b:List UInt8=>a<b) (fun a b c=>List.lt_trans) fun i hi=> ?_⟩
 ·obtain⟨i,hi,rfl⟩:=aRa hx;have:=(h1 i hi).1;rwa [AV hi] at this
 ·have:=(h1 (i+1) hi).2;rw[AV hi,Nat.add_sub_cancel,AV (show i<l.length by omega),AU] at this;exact aQu (this.resolve_left (by omega))
theorem FF {l:List qU}(h:uT l=true):l.length<=20/\(∀x∈l,sC x.1=true/\rR x.1=true/\rR x.2.1=true)/\l.Pairwise (fun a b=>a.1<b.1):=by
 unfold uT at h;simp only[aPT,aQf,aQx,aPQ,aRo,aQM] at h;obtain⟨h1,h2⟩:=h;unfold PP at h1;simp only[aQZ,aRq,aQ6,aQq] at h1;refine⟨by omega,fun x hx=> ?_,aFc (r:=fun a b:qU=>a.1<b.1) (fun a b c=>List.lt_trans) fun i hi=> ?_⟩
 ·obtain⟨i,hi,rfl⟩:=aRa hx;have:=(h1 i hi).1;rw[AV hi] at this;exact⟨this.1,JI this.1,this.2⟩
 ·have:=(h1 (i+1) hi).2;rw[AV hi,Nat.add_sub_cancel,AV (show i<l.length by omega),AU] at this;exact aQu (this.resolve_left (by omega))
theorem aMq {es:List sY}(h: ∀i,i<es.length->CH es i=false):es.Pairwise (fun a b=>a.1≠b.1):=by
 rw[aRe];intro i j hi hj hij he;have h1:=h j hj;unfold CH at h1;simp only[aQZ,aQx,aPQ] at h1;rw[AV hj] at h1;exact h1.1 es[i] (by rw[aRK];exact⟨i,by omega,rfl⟩) he
theorem M9 {c:C4}(h:uZ c=true):uD c.1=true/\uY c.2.1=true/\uT c.2.2.1=true/\c.2.2.2.1.length<=1000/\(∀x∈c.2.2.2.1,wZ x=true)/\c.2.2.2.1.Pairwise (fun a b=>a.1≠b.1):=by
 have h':=h;unfold uZ at h';simp only[aPT,aQf,aQx,aRo,aPQ,aQM] at h';obtain⟨⟨⟨h1,h2⟩,h3⟩,h4,h5⟩:=h';refine⟨h1,h2,h3,by omega,fun x hx=> ?_,aMq h5⟩;obtain⟨i,hi,rfl⟩:=aRa hx;have:=a6B h hi;rwa [AV hi] at this
theorem aMr {a b:List UInt8}(h: ¬a<b) (hne:a≠b):b<a:=by
 have:=a6s a b;rw[AU,AU] at this;have h1:decide (a<b)=false:=by simpa using h
 have h2:decide (b=a)=false:=by simpa using fun e=>hne e.symm
 rw[h1,h2] at this;simpa using this.symm
theorem a6D {α:Type}(f:α->List UInt8) {x:α}{p:α->Bool}: ∀{l:List α},l.Pairwise (fun a b=>f a<f b)->(∀y∈l,f y≠f x)->(∀y∈l,p y= !decide (f y<f x))->
  (l.take ((l.findIdx? p).getD l.length)++[x]++l.drop ((l.findIdx? p).getD l.length)).Pairwise (fun a b=>f a<f b)
 |[],_,_,_=>by simp
 |a::t,hp,hne,hpp=>by
  rw[aRC] at hp;have hpa:=hpp a aP8;rw[aQ2];by_cases h:f a<f x
  ·have hpf:p a=false:=by rw[hpa];simpa using h
   rw[hpf];have ih:=a6D f (x:=x) hp.2 (fun y hy=>hne y (aP1 _ hy)) (fun y hy=>hpp y (aP1 _ hy));have e:((if false=true then some 0 else(t.findIdx? p).map fun i=>i+1).getD (a::t).length)=(t.findIdx? p).getD t.length+1:=by
    cases t.findIdx? p<;>rfl
   rw[e,List.take_succ_cons,aRx,List.cons_append,List.cons_append,aRC];refine⟨fun y hy=> ?_,ih⟩;rw[aPW] at hy;rcases aQn.1 hy with hy|hy
   ·exact hp.1 y (List.mem_of_mem_take hy)
   ·rcases aP2.1 hy with rfl|hy
    ·exact h
    ·exact hp.1 y (List.mem_of_mem_drop hy)
  ·have hpt:p a=true:=by rw[hpa];simpa using h
   rw[hpt];have hx:f x<f a:=aMr h (hne a aP8);show ([]++[x]++(a::t)).Pairwise _;rw[List.nil_append,aQ1,aRC];refine⟨fun y hy=> ?_,aRC.2 hp⟩;rcases aP2.1 hy with rfl|hy
   ·exact hx
   ·exact List.lt_trans hx (hp.1 y hy)
theorem aFd {α:Type}{l:List α}{x y:α}{k:Nat}(h:y∈l.take k++[x]++l.drop k):y=x\/y∈l:=by
 rw[aPW] at h;rcases aQn.1 h with h|h
 ·exact .inr (List.mem_of_mem_take h)
 ·rcases aP2.1 h with h|h
  ·exact .inl h
  ·exact .inr (List.mem_of_mem_drop h)
theorem aFe {α:Type}{l:List α}{x:α}{k:Nat}:(l.take k++[x]++l.drop k).length=l.length+1:=by
 simp only[aPP,aQc,aP5,aQF];omega
theorem aMs {l:List (List UInt8)}(h:l.length<=20) (hx: ∀x∈l,rR x=true):uY l=true:=by
 unfold uY;simp only[aPT,aQf,aQx,aPQ,aQ6,aQM];exact⟨by omega,fun x hxl=>by simpa using hx x hxl⟩
theorem aFf {α:Type}{r:α->α->Prop}{l:List α}(h:l.Pairwise r) {i:Nat}(h0:0<i) (hi:i<l.length):r l[i-1] l[i]:=by
 rw[aRe] at h;exact h (i-1) i (by omega) hi (by omega)
theorem aMt {l:List (List UInt8)}(h:l.length<=20) (hx: ∀x∈l,sC x=true) (hp:l.Pairwise (· < ·)):zG l=true:=by
 unfold zG;simp only[aPT,aQf,aQx,aPQ,aRo,aQM];refine⟨fun i hi=> ?_,by omega⟩;unfold PO;rw[AV hi,hx _ (aQC hi)];by_cases h0:0<i
 ·rw[AV (show i-1<l.length by omega),AU];simp [aFf hp h0 hi]
 ·simp [h0]
theorem aMu {l:List qU}(h:l.length<=20) (hx: ∀x∈l,sC x.1=true/\rR x.2.1=true) (hp:l.Pairwise (fun a b=>a.1<b.1)):uT l=true:=by
 unfold uT;simp only[aPT,aQf,aQx,aPQ,aRo,aQM];refine⟨fun i hi=> ?_,by omega⟩;unfold PP;obtain⟨a,b⟩:=hx _ (aQC hi);rw[AV hi,a,b];by_cases h0:0<i
 ·rw[AV (show i-1<l.length by omega),AU];simp [aFf hp h0 hi]
 ·simp [h0]
theorem aMv {l:List (List UInt8)}{x:List UInt8}(h:uY l=true) (hl: ¬20<=l.length) (hx:rR x=true):uY (l++[x])=true:=by
 obtain⟨h1,h2⟩:=M8 h;refine aMs (by rw[aPP,aQF];omega) fun y hy=> ?_;rcases aQn.1 hy with hy|hy
 ·exact h2 y hy
 ·rw[aPY.1 hy];exact hx
theorem aMw {l:List (List UInt8)}{x:List UInt8}(h:zG l=true) (hl: ¬20<=l.length) (hx:sC x=true) (hn: ¬(l.any fun y=>decide (y=x))=true):zG (DJ l x)=true:=by
 obtain⟨h1,h2,h3⟩:=UU h;have hne: ∀y∈l,y≠x:=fun y hy e=>hn (List.any_eq_true.2 ⟨y,hy,by simp [e]⟩);unfold DJ vN;refine aMt (by rw[aFe];omega) (fun y hy=> ?_) (a6D (fun y=>y) h3 hne fun y _=>by rw[AU]);rcases aFd hy with rfl|hy
 ·exact hx
 ·exact h2 y hy
theorem aMx {l:List qU}{n v:List UInt8}(h:uT l=true) (hl: ¬20<=l.length) (hx:sC n=true) (hv:rR v=true) (hn: ¬(l.any fun y=>decide (y.1=n))=true):uT (BG l n v)=true:=by
 obtain⟨h1,h2,h3⟩:=FF h;have hne: ∀y∈l,y.1≠n:=fun y hy e=>hn (List.any_eq_true.2 ⟨y,hy,by simp [e]⟩);have hk:y7 l n=none:=by
  unfold y7;rw[aQR];intro y hy;simpa using hne y hy
 unfold BG;rw[hk];show uT (l.take (yQ l n)++[(n,v,())]++l.drop (yQ l n))=true;unfold yQ;refine aMu (by rw[aFe];omega) (fun y hy=> ?_) (a6D (fun y:qU=>y.1) (x:=(n,v,())) h3 hne fun y hy=> ?_)
 ·rcases aFd hy with rfl|hy
  ·exact⟨hx,hv⟩
  ·exact⟨(h2 y hy).1,(h2 y hy).2.2⟩
 ·rw[AU];have:decide (y.1=n)=false:=by simpa using hne y hy
  rw[this,Bool.or_false]
structure MA (sr tg:List UInt8) (cm fg:List (List UInt8)) (st:Int) (fd:List qU):Prop where
 sr:rR sr=true
 tg:rR tg=true
 cm:uY cm=true
 fg:zG fg=true
 st:0<=st/\st<=4
 fd:uT fd=true
theorem a6E:MA [] [] [] [] 0 []:=⟨by decide,by decide,by decide,by decide,by decide,by decide⟩
theorem aMy (x:List UInt8) (h: ¬vW x<0):0<=vW x/\vW x<=4:=by
 refine⟨by omega,?_⟩;unfold vW at h⊢;cases hk:vV.findIdx? fun y=>decide (y=x) with
 |none=>exact show ((-1:Int))<=4 by decide
 |some k=>
  have hl:k<vV.length:=(aQp.1 hk).1;have hl':vV.length=5:=rfl;show ((k:Nat):Int)<=4;omega
theorem aMz {id sr tg:List UInt8}{cm fg:List (List UInt8)}{st:Int}{fd:List qU}(hi:J9 id=true) (ht:rR id=true) (h:MA sr tg cm fg st fd):wZ (id,(sr,(tg,(cm,(fg,(st,(fd,())))))))=true:=by
 unfold J9 at hi;unfold wZ;dsimp only;rw[aPT] at hi;rw[hi.1,hi.2,ht,h.sr,h.tg,h.cm,h.fg,h.fd,aQD h.st.1,aQD h.st.2];rfl
structure UV (es:List sY):Prop where
 len:es.length<=1000
 ok: ∀x∈es,wZ x=true
 pw:es.Pairwise (fun a b=>a.1≠b.1)
section
variable {s:List UInt8}(hsm:s.length<=4000000000) {bad:Int}{ends:List Int}{tag:List UInt8}{cms:List (List UInt8)}{fds:List qU}{es:List sY}
include hsm
omit hsm in
theorem aMA {c:C4}(h1:uD c.1=true) (h2:uY c.2.1=true) (h3:uT c.2.2.1=true) (h4:UV c.2.2.2.1):uZ c=true:=by
 unfold uZ;rw[h1,h2,h3,aQD (show ((c.2.2.2.1.length:Int))<=1000 by have:=h4.len;omega)];simp only[Bool.true_and,aQf,aQx,aRo,aQM];intro i hi;unfold CH;rw[AV hi,h4.ok _ (aQC hi)];simp only[Bool.not_true,Bool.or_false,aQx,aPQ];intro y hy;rw[aRK] at hy;obtain⟨j,hj,rfl⟩:=hy;exact aRe.1 h4.pw j i (by omega) hi (by omega)
end
set_option maxRecDepth 1000000
theorem w4 {x:List UInt8}(h:rR x=true):x.length≤4000:=by
  unfold rR at h;simp only[aPT,aPQ] at h;omega
structure a6F (x:sY):Prop where
  id:x.1.length≤4000
  src:x.2.1.length≤4000
  tgt:x.2.2.1.length≤4000
  com:x.2.2.2.1.length≤20∧∀y∈x.2.2.2.1,y.length≤4000
  flg:x.2.2.2.2.1.length≤20∧∀y∈x.2.2.2.2.1,y.length≤4000
  fld:x.2.2.2.2.2.2.1.length≤20∧∀y∈x.2.2.2.2.2.2.1,y.1.length≤4000∧y.2.1.length≤4000
theorem a6G {x:sY}(h:wZ x=true):a6F x:=by
  have h':=h;unfold wZ at h';simp only[aPT] at h';obtain⟨⟨⟨⟨⟨⟨⟨⟨hne,h200⟩,hid⟩,hsrc⟩,htgt⟩,hcom⟩,hflg⟩,_⟩,hfld⟩:=h';obtain⟨c1,c2⟩:=M8 hcom;obtain⟨f1,f2,f3⟩:=UU hflg;obtain⟨g1,g2,g3⟩:=FF hfld;exact⟨w4 hid,w4 hsrc,w4 htgt,⟨c1,fun y hy=>w4 (c2 y hy)⟩,⟨f1,fun y hy=>w4 (JI (f2 y hy))⟩,⟨g1,fun y hy=>⟨w4 (g2 y hy).2.1,w4 (g2 y hy).2.2⟩⟩⟩
theorem a6H {l:List (List UInt8)}(h:l.length≤20∧∀y∈l,y.length≤4000):DM l:=⟨by omega,fun y hy=>by have:=h.2 y hy;omega⟩
theorem aFg {l:List qU}(h:l.length≤20∧∀y∈l,y.1.length≤4000∧y.2.1.length≤4000):H7 l:=⟨by omega,fun y hy=>by have:=h.2 y hy;omega⟩
theorem a6F.few {x:sY}(h:a6F x):H8 x:=⟨by have:=h.id;omega,by have:=h.src;omega,by have:=h.tgt;omega,a6H h.com,a6H h.flg,aFg h.fld⟩
theorem aMB {c:C4}(h:uZ c=true):FC c:=by
  obtain⟨h1,h2,h3,h4,h5,_⟩:=M9 h;obtain⟨c1,c2⟩:=M8 h2;obtain⟨g1,g2,g3⟩:=FF h3;refine⟨?_,a6H ⟨c1,fun y hy=>w4 (c2 y hy)⟩,aFg ⟨g1,fun y hy=>⟨w4 (g2 y hy).2.1,w4 (g2 y hy).2.2⟩⟩,h4,fun x hx=>(a6G (h5 x hx)).few⟩;unfold uD at h1;simp only[aPT,aPQ] at h1;omega
theorem aFh {c:C4}(h:uZ c=true):AO c c=some ()∧((((decide (c.1=c.1))&&(val (vK c.2.1 c.2.1)))&&(val (xJ c.2.2.1 c.2.2.1)))&&(val (AM c.2.2.2.1 c.2.2.2.1)))=true:=by
  obtain⟨h1,h2,h3,h4,h5,_⟩:=M9 h;have f2:pK c.2.1:=by have:=(M8 h2).1;unfold pK;omega
  have f3:pK c.2.2.1:=by have:=(FF h3).1;unfold pK;omega
  have f4:pK c.2.2.2.1:=by unfold pK;omega
  have f5: ∀y∈c.2.2.2.1,M1 y:=fun y hy=>by
    have hs:=a6G (h5 y hy);exact⟨by have:=hs.com.1;unfold pK;omega,by have:=hs.flg.1;unfold pK;omega,by have:=hs.fld.1;unfold pK;omega⟩
  constructor
  · unfold AO L8
    rw[H6 _ f2,M2 _ f3,UG _ f4 f5];rw[if_pos uA,if_pos uA,aPM,if_pos uA]
  · rw[H6 _ f2,M2 _ f3,UG _ f4 f5]
    simp [val]
theorem aMC:AO (([]:List UInt8),(([]:List (List UInt8)),(([]:List pP),(([]:List qS),())))) (([]:List UInt8),(([]:List (List UInt8)),(([]:List pP),(([]:List qS),()))))=some ():=by
  unfold AO L8;dsimp only;rw[H6 _ y9,M2 _ y9,UG _ y9 (fun _ h=>by cases h)];rw[if_pos uA,if_pos uA,aPM,if_pos uA]
def MB:Nat->List (List UInt8)->List Nat
 |_,[]=>[]
 |a,x::ps=>(a+x.length)::MB (a+x.length) ps
theorem FG {s:List UInt8}{r:List UInt8×Bool}(h:CB s=some r) (hr:r.2=true):rR r.1=true:=by
 unfold CB at h;obtain⟨u,_,h⟩:=Vc.pC h;split at h
 ·cases h;simp only[aPT,aPQ] at hr;have hf:pK u.1:=by unfold pK;omega
  rw[<-(GZ u.1 hf).2];simp only[aPT,aPQ];exact hr.2
 ·cases h
theorem aMD {s:List UInt8}{q:Int×List UInt8×List UInt8×Bool}(h:J0 s=some q) (hb:q.2.2.2=false):rR q.2.2.1=true/\q.1≠9:=by
 unfold J0 at h;obtain⟨u,_,h⟩:=Vc.pC h;split at h
 ·cases h;exact⟨by decide,by decide⟩
 ·obtain⟨t,ht,h⟩:=Vc.pC h;split at h
  ·cases h;exact⟨FG (r:=t) ht (by simpa using hb),by simp⟩
  ·split at h
   ·cases h;exact⟨FG (r:=t) ht (by simpa using hb),by simp⟩
   ·split at h
    ·cases h;exact⟨FG (r:=t) ht (by simpa using hb),by simp⟩
    ·split at h
     ·cases h;exact⟨FG (r:=t) ht (by simpa using hb),by simp⟩
     ·obtain⟨_,_,h⟩:=Vc.pC h;split at h
      ·split at h
       ·cases h;exact⟨FG (r:=t) ht (by simpa using hb),by simp⟩
       ·cases h
      ·cases h;exact⟨FG (r:=t) ht (by simpa using hb),by simp⟩
theorem aME {line:List UInt8}{q:Int×List UInt8×List UInt8×Bool}(h:uQ line=some q) (hb:q.2.2.2=false):rR q.2.2.1=true/\(q.1=9->rR q.2.1=true):=by
 unfold uQ at h;obtain⟨s,_,h⟩:=Vc.pC h;split at h
 ·cases h;exact⟨by decide,fun e=>absurd e (by decide)⟩
 ·obtain⟨_,_,h⟩:=Vc.pC h;split at h
  ·split at h
   ·cases h;exact⟨by decide,fun e=>absurd e (by decide)⟩
   ·split at h
    ·split at h
     ·cases h;exact⟨by decide,fun e=>absurd e (by decide)⟩
     ·split at h
      ·obtain⟨t,ht,h⟩:=Vc.pC h;cases h;exact⟨FG (r:=t) ht (by simpa using hb),fun e=>absurd e (by simp)⟩
      ·cases h
    ·cases h
  ·obtain⟨_,_,h⟩:=Vc.pC h;split at h
   ·cases h;exact⟨by decide,fun e=>absurd e (by decide)⟩
   ·obtain⟨_,_,h⟩:=Vc.pC h;split at h
    ·obtain⟨u,hu,h⟩:=Vc.pC h;cases h;obtain⟨g1,g2⟩:=aMD hu hb;exact⟨g1,fun e=>absurd e g2⟩
    ·split at h
     ·cases h;exact⟨by decide,fun e=>absurd e (by decide)⟩
     ·obtain⟨u,_,h⟩:=Vc.pC h;split at h
      ·cases h;exact⟨by decide,fun e=>absurd e (by decide)⟩
      ·obtain⟨t1,h1,h⟩:=Vc.pC h;obtain⟨t2,h2,h⟩:=Vc.pC h;cases h;simp only[aQZ,aQ6] at hb;exact⟨FG (r:=t2) h2 hb.2,fun _=>FG (r:=t1) h1 hb.1⟩
theorem aMF {s:List UInt8}(h:val (yO s)=true):pK s:=by
 by_cases hl:s.length<=40
 ·unfold pK;omega
 ·exfalso;unfold yO at h;rw[if_pos (fun _=>⟨aQS _,by omega⟩),if_pos (by simp;omega)] at h;exact aQr h
theorem sA {α:Type}{c:Prop}[Decidable c] {a b r:α}(h:(if c then a else b)=r):(c/\a=r)\/(¬c/\b=r):=by
 by_cases hc:c
 ·rw[if_pos hc] at h;exact .inl ⟨hc,h⟩
 ·rw[if_neg hc] at h;exact .inr ⟨hc,h⟩
abbrev BX (x:IB):Prop:=MA x.1.2.1 [] x.1.2.2.2.1 x.1.2.2.2.2.1 x.1.2.2.2.2.2.1 x.1.2.2.2.2.2.2.1
abbrev aMG:=(List UInt8)×(List (List UInt8))×(List (List UInt8))×Int×(List pP)×Bool×Bool×Int
theorem a6I {x:IB}{p:KM}{r:aMG}(h:tM x p=some r) (hi:BX x) (hp:p.2.2.2.1=false->rR p.2.2.1=true) (he:r.2.2.2.2.2.2.2=0):MA r.1 [] r.2.1 r.2.2.1 r.2.2.2.1 r.2.2.2.2.1:=by
 have f1:pK x.1.2.2.2.2.1:=by have:=(UU hi.fg).1;unfold pK;omega
 have f2:pK x.1.2.2.2.2.2.2.1:=by have:=(FF hi.fd).1;unfold pK;omega
 unfold tM at h;rcases sA h with⟨hc0,h⟩ |⟨hc0,h⟩
 ·rcases sA h with⟨hc1,h⟩ |⟨hc1,h⟩
  ·cases h;exact absurd he (by simp)
  ·have hb:=hc1;have hv:=hp (by simpa using hb);rcases sA h with⟨hc2,h⟩ |⟨hc2,h⟩
   ·cases h;exact absurd he (by simp)
   ·have h20:=hc2;rcases sA h with⟨hc3,h⟩ |⟨hc3,h⟩
    ·rcases sA h with⟨hc4,h⟩ |⟨hc4,h⟩
     ·cases h;exact⟨hi.sr,hi.tg,by rw[List.nil_append];exact aMv hi.cm (fun hh=>h20 (aQD (by omega))) hv,hi.fg,hi.st,hi.fd⟩
     ·cases h
    ·cases h
 ·rcases sA h with⟨hc5,h⟩ |⟨hc5,h⟩
  ·rcases sA h with⟨hc6,h⟩ |⟨hc6,h⟩
   ·cases h;exact absurd he (by simp)
   ·have hb:=hc6;have hv:=hp (by simpa using hb);rcases sA h with⟨hc7,h⟩ |⟨hc7,h⟩
    ·cases h;exact absurd he (by simp)
    ·cases h;exact⟨hv,hi.tg,hi.cm,hi.fg,hi.st,hi.fd⟩
  ·rcases sA h with⟨hc8,h⟩ |⟨hc8,h⟩
   ·rw[U1,if_pos uA] at h;rcases sA h with⟨hc9,h⟩ |⟨hc9,h⟩
    ·cases h;exact absurd he (by simp)
    ·have hs:=hc9;rcases sA h with⟨hc10,h⟩ |⟨hc10,h⟩
     ·cases h;exact absurd he (by simp)
     ·rw[aPM] at h;cases h;have hs': ¬vW p.2.2.1<0:=by
       intro hh;apply hs;show (p.2.2.2.1||decide (vW p.2.2.1<0))=true
       simp [hh]
      exact⟨hi.sr,hi.tg,hi.cm,hi.fg,aMy _ hs',hi.fd⟩
   ·rcases sA h with⟨hc11,h⟩ |⟨hc11,h⟩
    ·rcases sA h with⟨hc12,h⟩ |⟨hc12,h⟩
     ·rcases sA h with⟨hc13,h⟩ |⟨hc13,h⟩
      ·cases h;exact absurd he (by simp)
      ·have hs:=hc13;cases hb:p.2.2.2.1 with
       |true=>exact absurd (by simp [hb]) hs
       |false=>
        have hv:=hp hb;have hf:pK p.2.2.1:=by have:=w4 hv;unfold pK;omega
        rw[DE _ hf,hb] at hs;have hn:sC p.2.2.1=true:=by
         cases hq:sC p.2.2.1 with
         |true=>rfl
         |false=>rw[hq] at hs;exact absurd rfl hs
        rw[a6o _ _ f1,aPM] at h;rcases sA h with⟨hc14,h⟩ |⟨hc14,h⟩
        ·cases h;exact absurd he (by simp)
        ·have hany:=hc14;rcases sA h with⟨hc15,h⟩ |⟨hc15,h⟩
         ·cases h;exact absurd he (by simp)
         ·have h20:=hc15;rw[a6p f1,aPM] at h;cases h;exact⟨hi.sr,hi.tg,hi.cm,aMw hi.fg (fun hh=>h20 (aQD (by omega))) hn hany,hi.st,hi.fd⟩
     ·cases h
    ·rcases sA h with⟨hc16,h⟩ |⟨hc16,h⟩
     ·rcases sA h with⟨hc17,h⟩ |⟨hc17,h⟩
      ·rcases sA h with⟨hc18,h⟩ |⟨hc18,h⟩
       ·cases h;exact absurd he (by simp)
       ·have hs:=hc18;cases hb:p.2.2.2.1 with
        |true=>exact absurd (by simp [hb]) hs
        |false=>
         have hv:=hp hb;have hn:val (yO p.2.1)=true:=by
          cases hq:val (yO p.2.1) with
          |true=>rfl
          |false=>exact absurd (by rw[hq,hb];rfl) hs
         have hnk:sC p.2.1=true:=by
          have hf:=aMF hn;rw[DE _ hf] at hn;exact hn
         rw[a5Q _ _ f2,aPM] at h;rcases sA h with⟨hc19,h⟩ |⟨hc19,h⟩
         ·cases h;exact absurd he (by simp)
         ·have hany:=hc19;rw[a5P] at hany;rcases sA h with⟨hc20,h⟩ |⟨hc20,h⟩
          ·cases h;exact absurd he (by simp)
          ·have h20:=hc20;rw[a5R _ _ _ f2,aPM] at h;cases h;exact⟨hi.sr,hi.tg,hi.cm,hi.fg,hi.st,aMx hi.fd (fun hh=>h20 (aQD (by omega))) hnk hv hany⟩
      ·cases h
     ·cases h;exact hi
theorem aMH {c:rZ}{x:IB}{p:KM}{r:List qS×Int}(h:EH c x p=some r) (hi:BX x) (hes:UV c.2.2.2.1) (hp:p.2.2.2.1=false->rR p.2.2.1=true/\rR p.2.1=true) (he:r.2=0):UV r.1/\r.1.length=c.2.2.2.1.length+1:=by
 unfold EH at h;rcases sA h with⟨hc0,h⟩ |⟨hc0,h⟩
 ·cases h;exact absurd he (by simp)
 ·simp only[aQT,aPQ,not_or,aQM] at hc0;obtain⟨⟨hb,hne⟩,h200⟩:=hc0;obtain⟨hv,hk⟩:=hp hb;rw[UE _ _ (show c.2.2.2.1.length<=5000 by have:=hes.len;omega),aPM,a59] at h;rcases sA h with⟨hc1,h⟩ |⟨hc1,h⟩
  ·cases h;exact absurd he (by simp)
  ·rcases sA h with⟨hc2,h⟩ |⟨hc2,h⟩
   ·cases h;exact absurd he (by simp)
   ·rcases sA h with⟨hc3,h⟩ |⟨hc3,h⟩
    ·rcases sA h with⟨hc4,h⟩ |⟨hc4,h⟩
     ·cases h;have hm: ¬(1000:Int)<=(c.2.2.2.1.length:Int):=fun hh=>hc2 (aQD hh);refine⟨⟨?_,fun y hy=> ?_,?_⟩,?_⟩
      ·simp only[List.nil_append,aPP,aQF];omega
      ·rw[List.nil_append] at hy;rcases aQn.1 hy with hy|hy
       ·exact hes.ok y hy
       ·rw[aPY.1 hy];refine aMz (sr:=x.1.2.1) (tg:=p.2.2.1) (cm:=x.1.2.2.2.1) (fg:=x.1.2.2.2.2.1) (st:=x.1.2.2.2.2.2.1) (fd:=x.1.2.2.2.2.2.2.1) ?_ hk ⟨hi.sr,hv,hi.cm,hi.fg,hi.st,hi.fd⟩;unfold J9;simp only[aPT,aQf,aQq,aPQ];exact⟨hne,by omega⟩
      ·rw[List.nil_append,aQ7];refine⟨hes.pw,aRv _ _,fun a ha b hb2=> ?_⟩;rw[aPY.1 hb2];intro e;exact hc1 (List.any_eq_true.2 ⟨a,ha,aQD e⟩)
      ·simp only[List.nil_append,aPP,aQF]
     ·cases h
    ·cases h
theorem aMI {v:List UInt8}(h:val (D7 v)=true) (ht:rR v=true):uD v=true:=by
 have hf:pK v:=by have:=w4 ht;unfold pK;omega
 rw[P9 _ hf] at h;exact h
def a6J (t:List UInt8):Prop:=t=[]\/uD t=true
abbrev aFi:=(List UInt8)×(List (List UInt8))×(List pP)×(List UInt8)×(List UInt8)×(List UInt8)×(List (List UInt8))×(List (List UInt8))×Int×(List pP)×Bool×Bool×Int×Bool×Int
def aMJ (r:aFi):Prop:=
 MA r.2.2.2.2.1 [] r.2.2.2.2.2.2.1 r.2.2.2.2.2.2.2.1 r.2.2.2.2.2.2.2.2.1 r.2.2.2.2.2.2.2.2.2.1/\
 ((r.2.2.2.2.2.2.2.2.2.2.2.2.2.1=false/\a6J r.1)\/(r.2.2.2.2.2.2.2.2.2.2.2.2.2.1=true/\uD r.1=true/\uY r.2.1=true/\uT r.2.2.1=true))
theorem aMK {c:rZ}{x:IB}{p:KM}{r:aFi}(h:xK c x p=some r) (hi:BX x) (hc:a6J c.1) (hp:p.2.2.2.1=false->rR p.2.2.1=true) (he:r.2.2.2.2.2.2.2.2.2.2.2.2.2.2=0):aMJ r:=by
 unfold xK at h;obtain⟨b1,_,h⟩:=Vc.pC h;rcases sA h with⟨_,h⟩ |⟨_,h⟩
 ·cases h;exact⟨hi,.inl ⟨rfl,hc⟩⟩
 ·obtain⟨b2,_,h⟩:=Vc.pC h;rcases sA h with⟨_,h⟩ |⟨_,h⟩
  ·obtain⟨a,ha,h⟩:=Vc.pC h;cases h;exact⟨a6I ha hi hp he,.inl ⟨rfl,hc⟩⟩
  ·rcases sA h with⟨_,h⟩ |⟨_,h⟩
   ·rcases sA h with⟨_,h⟩ |⟨_,h⟩
    ·rcases sA h with⟨hb,h⟩ |⟨hb,h⟩
     ·cases h;exact absurd he (by simp)
     ·rcases sA h with⟨_,h⟩ |⟨_,h⟩
      ·cases h;exact absurd he (by simp)
      ·cases h;simp only[aQT,aQf,not_or,aQM,Bool.not_eq_false] at hb;exact⟨hi,.inl ⟨rfl,.inr (aMI hb.2 (hp hb.1))⟩⟩
    ·cases h
   ·rcases sA h with⟨_,h⟩ |⟨_,h⟩
    ·rcases sA h with⟨ht,h⟩ |⟨ht,h⟩
     ·cases h;exact absurd he (by simp)
     ·cases h;have ht':c.1≠[]:=fun e=>ht (aQD e);exact⟨a6E,.inr ⟨rfl,hc.resolve_left ht',hi.cm,hi.fd⟩⟩
    ·cases h;exact absurd he (by simp)
structure AJ (ends:List Int) (tag:List UInt8) (cms:List (List UInt8)) (fds:List qU) (es:List sY) (src:List UInt8) (cm fl:List (List UInt8)) (st:Int) (fd:List qU):Prop where
 blk:MA src [] cm fl st fd
 out:ends=[]->a6J tag/\es=[]
 inn:ends≠[]->uD tag=true/\uY cms=true/\uT fds=true/\UV es/\ends.length=es.length+1
abbrev a6K (b:RS):Prop:=AJ b.1 b.2.2.2.1 b.2.2.2.2.1 b.2.2.2.2.2.1 b.2.2.2.2.2.2.1 b.2.2.2.2.2.2.2.2.1 b.2.2.2.2.2.2.2.2.2.2.1 b.2.2.2.2.2.2.2.2.2.2.2.1 b.2.2.2.2.2.2.2.2.2.2.2.2.1 b.2.2.2.2.2.2.2.2.2.2.2.2.2.1
theorem aML {line:List UInt8}{b b':RS}(h:xD line b=some (.inl b')) (hi:a6K b):a6K b':=by
 unfold xD at h;obtain⟨q,hq,h⟩:=Vc.pC h;obtain⟨r,hr,h⟩:=Vc.pC h;have hp:=aME hq;obtain⟨b1,b2,b3,b4,b5,b6,b7,b8,b9,b10,b11,b12,b13,b14,H4,b16,b17⟩:=b;rcases sA h with⟨_,h⟩ |⟨hz,h⟩
 ·cases h
 ·have hz':r.1=0:=by simpa using hz
  unfold uH at hr;rcases sA hr with⟨hlen,hr⟩ |⟨hlen,hr⟩
  ·have hb1:b1=[]:=by
    have:b1.length=0:=by simpa using hlen
    exact aQJ.1 this
   subst hb1;obtain⟨w,hw,hr⟩:=Vc.pC hr;cases hr;have ho:=aMK hw hi.blk (hi.out rfl).1 (fun e=>(hp e).1) hz';have hes:=(hi.out rfl).2;dsimp only at hes;subst hes;rcases ho with⟨o1,⟨o2,o3⟩ |⟨o2,o3,o4,o5⟩⟩
   ·dsimp only at h;rw[if_neg (by rw[o2];decide)] at h;cases h;exact⟨o1,fun _=>⟨o3,rfl⟩,fun e=>absurd rfl e⟩
   ·dsimp only at h;rw[if_pos o2] at h;rcases sA h with⟨_,h⟩ |⟨_,h⟩
    ·cases h;exact⟨o1,fun e=>absurd e (by simp),fun _=>⟨o3,o4,o5,⟨aQI _,fun x hx=>(by cases hx),List.Pairwise.nil⟩,rfl⟩⟩
    ·cases h
  ·have hb1:b1≠[]:=fun e=>hlen (by simp [e]);obtain⟨i1,i2,i3,i4,i5⟩:=hi.inn hb1;rcases sA hr with⟨h9,hr⟩ |⟨h9,hr⟩
   ·obtain⟨w,hw,hr⟩:=Vc.pC hr;cases hr;have h9':q.1=9:=by simpa using h9
    obtain⟨g1,g2⟩:=aMH hw hi.blk i4 (fun e=>⟨(hp e).1,(hp e).2 h9'⟩) hz';dsimp only at h;rw[if_pos rfl] at h;rcases sA h with⟨_,h⟩ |⟨_,h⟩
    ·cases h;refine⟨a6E,fun e=>absurd e (by simp),fun _=>⟨i1,i2,i3,g1,?_⟩⟩;dsimp only at i5 g2⊢;rw[aPP,aQF,g2,i5]
    ·cases h
   ·rcases sA hr with⟨_,hr⟩ |⟨_,hr⟩
    ·obtain⟨w,hw,hr⟩:=Vc.pC hr;rcases sA hr with⟨_,hr⟩ |⟨_,hr⟩
     ·cases hr;have hA:=a6I hw hi.blk (fun e=>(hp e).1) hz';dsimp only at h;rw[if_neg (by decide)] at h;cases h;exact⟨hA,fun e=>absurd e hb1,fun _=>⟨i1,i2,i3,i4,i5⟩⟩
     ·cases hr;have hA:=a6I hw hi.blk (fun e=>(hp e).1) hz';dsimp only at h;rw[if_neg (by decide)] at h;cases h;exact⟨hA,fun e=>absurd e hb1,fun _=>⟨i1,i2,i3,i4,i5⟩⟩
    ·rcases sA hr with⟨_,hr⟩ |⟨_,hr⟩
     ·cases hr;exact absurd hz' (by simp)
     ·cases hr;dsimp only at h;rw[if_neg (by decide)] at h;cases h;exact⟨hi.blk,fun e=>absurd e hb1,fun _=>⟨i1,i2,i3,i4,i5⟩⟩
theorem aFj: ∀(ls:List (List UInt8)) (b:RS) (f:FR),tU ls b=some (.inl f)->a6K b->AJ f.1 f.2.1 f.2.2.1 f.2.2.2.1 f.2.2.2.2.1 f.2.2.2.2.2.2.1 f.2.2.2.2.2.2.2.2.1 f.2.2.2.2.2.2.2.2.2.1 f.2.2.2.2.2.2.2.2.2.2.1 f.2.2.2.2.2.2.2.2.2.2.2.1
 |[],b,f,h,hi=>by
  cases h;exact hi
 |l::ls,b,f,h,hi=>by
  unfold tU at h;obtain⟨w,hw,h⟩:=Vc.pC h;cases w with
  |inl b'=>exact aFj ls b' f h (aML hw hi)
  |inr e=>cases h
theorem aFk: ∀(ls:List (List UInt8)) (b:RS) (e:ER7),tU ls b=some (.inr e)->e.2.2.2.2.2.2≠0/\e.1=[]/\e.2.1=[]/\e.2.2.1=[]/\e.2.2.2.1=[]/\e.2.2.2.2.1=[]
 |[],b,e,h=>by cases h
 |l::ls,b,e,h=>by
  unfold tU at h;obtain⟨w,hw,h⟩:=Vc.pC h;cases w with
  |inl b'=>exact aFk ls b' e h
  |inr e'=>
   cases h;unfold xD at hw;obtain⟨q,_,hw⟩:=Vc.pC hw;obtain⟨r,_,hw⟩:=Vc.pC hw;rcases sA hw with⟨hz,hw⟩ |⟨_,hw⟩
   ·cases hw;exact⟨by simpa using hz,rfl,rfl,rfl,rfl,rfl⟩
   ·rcases sA hw with⟨_,hw⟩ |⟨_,hw⟩
    ·rcases sA hw with⟨_,hw⟩ |⟨_,hw⟩
     ·cases hw
     ·cases hw
    ·cases hw
theorem aMM {s:List UInt8}(hsm:s.length<=4000000000): ∃v,GT s=some v/\(v.2.2.2.2.2.2=0->uZ (v.1,(v.2.1,(v.2.2.1,(v.2.2.2.1,()))))=true/\v.2.2.2.2.1.length=v.2.2.2.1.length+1)/\(v.2.2.2.2.2.2≠0->v.1=[]/\v.2.1=[]/\v.2.2.1=[]/\v.2.2.2.1=[]/\v.2.2.2.2.1=[]):=by
 obtain⟨v,h0,_⟩:=aED hsm;refine⟨v,h0,?_⟩;unfold GT at h0;rw[a6m hsm,aPM] at h0;obtain⟨w,hw,h0⟩:=Vc.u6 h0;have hw':tU (LN s) JF=some w:=by rw[<-aEK hsm];exact hw
 cases w with
 |inr e=>
  cases h0;obtain⟨e1,e2⟩:=aFk _ _ _ hw';exact⟨fun h=>absurd h e1,fun _=>e2⟩
 |inl f=>
  have hi:=aFj _ _ _ hw' ⟨a6E,fun _=>⟨.inl rfl,rfl⟩,fun e=>absurd rfl e⟩;obtain⟨f1,f2,f3,f4,f5,f6,f7,f8,f9,f10,f11,f12,f13,f14,f15⟩:=f;dsimp only at h0;rcases sA h0 with⟨hl,h0⟩ |⟨hl,h0⟩
  ·cases h0;exact⟨fun h=>absurd h (by simp),fun _=>⟨rfl,rfl,rfl,rfl,rfl⟩⟩
  ·have hne:f1≠[]:=fun e=>hl (by simp [e]);rcases sA h0 with⟨_,h0⟩ |⟨_,h0⟩
   ·cases h0;exact⟨fun h=>absurd h (by simp),fun _=>⟨rfl,rfl,rfl,rfl,rfl⟩⟩
   ·cases h0;obtain⟨i1,i2,i3,i4,i5⟩:=hi.inn hne;exact⟨fun _=>⟨aMA i1 i2 i3 i4,i5⟩,fun h=>absurd rfl h⟩
theorem aMN:LP=some true:=by kernel_rfl
def rJ (a b:List UInt8):List UInt8:=((a++[32,61,32])++rF 1 b)++[10]
theorem FH {a b:List UInt8}(ha:a.length≤36002) (hb:b.length≤6000):(rJ a b).length≤72006:=by
  have:=FD (n:=1) (.inl rfl) b;simp only[rJ,aPP,aPR,aPZ];omega
theorem a6L {s:List UInt8}(h:s.length≤6000):DB (1:Int) s=some (rF 1 s):=aMb (n:=1) (.inl rfl) (H9 h)
theorem UW {b:List Int}{s:List UInt8}(h:b.length+s.length≤140737488355328):xH (b,()) s=some ():=by
  unfold xH;exact if_pos h
theorem MC {w:List Int}{a b:List UInt8}(ha:a.length≤36002) (hb:b.length≤6000) (hw:w.length≤100000000000):zA (w,()) a b=some (w++rK (rJ a b)):=by
  have h1:=FH ha hb;have h2:=FD (n:=1) (.inl rfl) b;unfold rJ at*;unfold zA;rw[if_pos (M7 (n:=1000000000) (by simp only[aPP,aPR,aPZ];omega) (by decide)),a6L hb,aPM,if_pos (M7 (n:=1000000000) (by simp only[aPP,aPR,aPZ];omega) (by decide)),if_pos (M7 (n:=1000000000) (by simp only[aPP,aPR,aPZ];omega) (by decide)),UW (by omega),aPM]
def sR (s:List UInt8):List UInt8:=([35,46,32]++rF 1 s)++[10]
def DN (l:List (List UInt8)):List UInt8:=l.flatMap sR
theorem aFl {s:List UInt8}(h:s.length≤6000):(sR s).length≤36004:=by
  have:=FD (n:=1) (.inl rfl) s;simp only[sR,aPP,aPR,aPZ];omega
theorem a6M {l:List (List UInt8)}(h:DM l):(DN l).length≤216024000:=by
  have:=HA (l:=l) (h:=sR) (B:=36004) fun x hx=>aFl (h.2 x hx);have h1:=h.1;unfold DN
  calc _≤l.length*36004:=this
    _≤6000*36004:=aRJ _ h1
theorem aFm {l:List (List UInt8)}(h:DM l) {w:List Int}(hw:w.length≤1000000000):EX (w,()) l=some (w++rK (DN l)):=by
  have hl:=h.1
  have k:=PT (f:=OY l) (fun i b=>(i,b)) (fun b=>b) (n:=l.length) (M:=100000000000) (B:=36004) (fun i=>rK (sR (l.getD i []))) (fun i hi=>by rw[A4];exact aFl (UP h hi)) w (by omega) (fun i s hi hM=>by
    have h1:=FD (n:=1) (.inl rfl) (l.getD i []);have h2:=UP h hi;unfold OY;dsimp only;rw[if_pos (sQ hi),if_pos (rO hi),UI,a6L h2,aPM,if_pos (M7 (n:=1000000000) (by simp only[aPP,aPR,aPZ];omega) (by decide)),if_pos (M7 (n:=1000000000) (by simp only[aPP,aPR,aPZ];omega) (by decide)),UW (by simp only[aPP,aPR,aPZ];omega),aPM,if_pos (sJ (by omega))];rfl) (fun b=>by
    unfold OY;dsimp only;rw[if_neg (uR _)])
  unfold EX;rw[k,UO,UN (l:=l) (d:=[]) sR];rfl
def uE (f:qU):List UInt8:=rJ ([33,58]++f.1) f.2.1
def FI (l:List qU):List UInt8:=l.flatMap uE
theorem aFn {f:qU}(h:f.1.length≤6000∧f.2.1.length≤6000):(uE f).length≤72006:=FH (by simp only[aPP,aPR,aPZ];omega) h.2
theorem UX {l:List qU}(h:H7 l):(FI l).length≤432036000:=by
  have:=HA (l:=l) (h:=uE) (B:=72006) fun x hx=>aFn (h.2 x hx);have h1:=h.1;unfold FI
  calc _≤l.length*72006:=this
    _≤6000*72006:=aRJ _ h1
theorem aFo {l:List qU}(h:H7 l) {w:List Int}(hw:w.length≤2000000000):EY (w,()) l=some (w++rK (FI l)):=by
  have hl:=h.1
  have k:=PT (f:=OZ l) (fun i b=>(i,b)) (fun b=>b) (n:=l.length) (M:=10000000000) (B:=72006) (fun i=>rK (uE (l.getD i fD))) (fun i hi=>by rw[A4];exact aFn (aE8 h hi)) w (by omega) (fun i s hi hM=>by
    have h2:=aE8 h hi;unfold OZ;dsimp only;rw[if_pos (sQ hi),if_pos (rO hi),a6t,if_pos (M7 (n:=1000000000) (by simp only[aPP,aPR,aPZ];omega) (by decide)),MC (by simp only[aPP,aPR,aPZ];omega) h2.2 (by omega),aPM,if_pos (sJ (by omega))];rfl) (fun b=>by
    unfold OZ;dsimp only;rw[if_neg (uR _)])
  unfold EY;rw[k,UO,UN (l:=l) (d:=fD) uE];rfl
abbrev xT:List UInt8:=[33,102,108,97,103]
abbrev PV:List UInt8:=[33,115,111,117,114,99,101]
abbrev PW:List UInt8:=[33,115,116,97,116,101]
abbrev BH:List UInt8:=[33,116,97,103]
def JJ (l:List (List UInt8)):List UInt8:=l.flatMap (rJ xT)
theorem aFp {l:List (List UInt8)}(h:DM l):(JJ l).length≤432036000:=by
  have:=HA (l:=l) (h:=rJ xT) (B:=72006) fun x hx=>FH (by decide) (h.2 x hx);have h1:=h.1;unfold JJ
  calc _≤l.length*72006:=this
    _≤6000*72006:=aRJ _ h1
theorem aMO {x:sY}(h:H8 x) {w:List Int}(hw:w.length≤2000000000):pY (LI x) ((0:Int),w)=some (w++rK (JJ x.2.2.2.2.1)):=by
  have hl:=h.flg.1
  have k:=PT (f:=LI x) (fun i b=>(i,b)) (fun b=>b) (n:=x.2.2.2.2.1.length) (M:=10000000000) (B:=72006) (fun i=>rK (rJ xT (x.2.2.2.2.1.getD i []))) (fun i hi=>by rw[A4];exact FH (by decide) (UP h.flg hi)) w (by omega) (fun i s hi hM=>by
    unfold LI;dsimp only;rw[if_pos (sQ hi),if_pos (rO hi),UI,MC (by decide) (UP h.flg hi) (by omega),aPM,if_pos (sJ (by omega))]) (fun b=>by
    unfold LI;dsimp only;rw[if_neg (uR _)])
  rw[k,UO,UN (l:=x.2.2.2.2.1) (d:=[]) (rJ xT)];rfl
def FJ (x:sY):List UInt8:=[10]++DN x.2.2.2.1
def FK (x:sY):List UInt8:=FJ x++(if x.2.1=[] then[] else rJ PV x.2.1)
def JK (x:sY):List UInt8:=FK x++(if x.2.2.2.2.2.1=0 then[] else rJ PW (pQ .str vV x.2.2.2.2.2.1))
def v6 (x:sY):List UInt8:=((JK x++JJ x.2.2.2.2.1)++FI x.2.2.2.2.2.2.1)++rJ (rF 1 x.1) x.2.2.1
section
variable {x:sY}(h:H8 x) (h0:0≤x.2.2.2.2.2.1) (h4:x.2.2.2.2.2.1≤4)
include h
theorem aFq:(FJ x).length≤216024001:=by
  have h2:=a6M h.com;simp only[FJ,aPP,aPR,aPZ];omega
theorem aFr:(FK x).length≤216096007:=by
  have h1:=aFq h;have h2:=FH (a:=PV) (by decide) h.src;unfold FK;rw[aPP];split
  ·simp only[aPZ];omega
  ·omega
theorem aFs:(rF 1 x.1).length≤36002:=by
  have:=FD (n:=1) (.inl rfl) x.1;have:=h.id;omega
include h0 h4
theorem aFt:(JK x).length≤216168013:=by
  have h1:=aFr h;have h2:=FH (a:=PW) (b:=pQ .str vV x.2.2.2.2.2.1) (by decide) (by have:=a6A h0 h4;omega);unfold JK;rw[aPP];split
  ·simp only[aPZ];omega
  ·omega
theorem aMP:(v6 x).length≤2000000000:=by
  have h1:=aFt h h0 h4;have h2:=aFp h.flg;have h3:=UX h.fld;have h5:=FH (aFs h) h.tgt;simp only[v6,aPP];omega
theorem aMQ:IV x=some (v6 x):=by
  have lA:=aFq h;have lB:=aFr h;have lC:=aFt h h0 h4;have lf:=aFp h.flg;have lg:=UX h.fld;have s4:=a6A h0 h4
  have eA:([]:List Int)++rK ([10]:List UInt8)++rK (DN x.2.2.2.1)=rK (FJ x):=by
    unfold FJ;rw[AS,List.nil_append]
  have eB: ∀K:List Int→Option (List UInt8),((if (!decide (x.2.1=([]:List UInt8)))=true then(zA (rK (FJ x),()) ([33,115,111,117,114,99,101]:List UInt8) x.2.1).bind fun O=>some (O) else some (rK (FJ x))).bind K)=K (rK (FK x)):=by
    intro K;unfold FK;by_cases he:x.2.1=[]
    ·rw[if_neg (by simp [he]),if_pos he,List.append_nil,aPM]
    ·rw[if_pos (by simp [he]),if_neg he,MC (by decide) h.src (by rw[A4];omega),aPM,aPM,AS]
  have eC: ∀K:List Int→Option (List UInt8),((if (!decide (x.2.2.2.2.2.1=(0:Int)))=true then
    if 0≤x.2.2.2.2.2.1∧x.2.2.2.2.2.1<(vV.length:Int) then
     (zA (rK (FK x),()) ([33,115,116,97,116,101]:List UInt8) (pQ .str vV x.2.2.2.2.2.1)).bind fun Z=>
     some (Z)
    else none
   else
    some (rK (FK x))).bind K)=K (rK (JK x)):=by
    intro K;unfold JK;by_cases he:x.2.2.2.2.2.1=0
    ·rw[if_neg (by simp [he]),if_pos he,List.append_nil,aPM]
    ·rw[if_pos (by simp [he]),if_neg he,if_pos ⟨h0,by show _<(5:Int);omega⟩,MC (by decide) (by omega) (by rw[A4];omega),aPM,aPM,AS]
  unfold IV;rw[UW (by simp),aPM,aFm h.com (by simp [rK]),aPM,eA];unfold rC;refine(eB _).trans ?_;refine(eC _).trans ?_;rw[aMO h (by rw[A4];omega),aPM,aFo h.fld (by rw[aPP,A4,A4];omega),aPM,a6L h.id,aPM,MC (aFs h) h.tgt (by simp only[aPP,A4];omega),aPM,←AS,←AS,←AS,LX];rfl
end
def wD (c:C4):List UInt8:=((DN c.2.1++rJ BH c.1)++FI c.2.2.1)++[37,37,10]
theorem aMR {c:C4}(hc:FC c):(wD c).length≤900000000:=by
  have h1:(rJ BH c.1).length≤72006:=FH (a:=BH) (b:=c.1) (by decide) (by have:=hc.tag;omega);have h2:=a6M hc.com;have h3:=UX hc.fld;simp only[wD,aPP,aPR,aPZ];omega
theorem aMS {c:C4}(hc:FC c):EZ c=some (if uZ c=true then(wD c,c.2.2.2.1.map v6,0) else([],[],1)):=by
  unfold EZ;rw[aL2 hc.fitP,aPM];by_cases hok:uZ c=true
  · have hl:=hc.len
    have h1:(rJ [33,116,97,103] c.1).length≤72006:=FH (a:=BH) (b:=c.1) (by decide) (by have:=hc.tag;omega);have h2:=a6M hc.com;have h3:=UX hc.fld
    have k:=PT (f:=P5 c) (fun i b=>(i,b)) (fun b=>b) (n:=c.2.2.2.1.length) (M:=1000000) (B:=1) (fun i=>[v6 (c.2.2.2.1.getD i eD)]) (fun i hi=>by simp) [] (by simp;omega) (fun i b hi hM=>by
      obtain⟨r0,r4⟩:=UQ (a6B hok hi);unfold P5;dsimp only;rw[if_pos (sQ hi),if_pos (rO hi),a6u,aMQ (hc.ent _ (JG hi)) r0 r4,aPM,if_pos (by simp;omega),if_pos (sJ (by omega))]) (fun b=>by
      unfold P5;dsimp only;rw[if_neg (uR _)])
    rw[hok,if_neg (show¬(!true)=true from by decide),if_pos rfl,aFm hc.com (by simp),aPM,MC (by decide) (by have:=hc.tag;omega) (by simp only[List.nil_append,A4];omega),aPM,aFo hc.fld (by simp only[List.nil_append,aPP,A4];omega),aPM,UW (by simp only[List.nil_append,aPP,A4,aPR,aPZ];omega),aPM,k,UN (l:=c.2.2.2.1) (d:=eD) (fun x=>[v6 x])];unfold rC;rw[aPM,List.nil_append,List.nil_append,←AS,←AS,←AS,LX,aMh];rfl
  · simp only[aQM] at hok
    rw[hok,if_pos (show (!false)=true from rfl),if_neg (by decide)]
theorem aMT {c:C4}(hc:FC c) (hok:uZ c=true): ∀x∈([wD c]++c.2.2.2.1.map v6)++[[]],x.length≤2000000000:=by
  intro x hx;simp only[aQn,aPY,List.mem_map] at hx;rcases hx with(rfl|⟨y,hy,rfl⟩) |rfl
  ·have:=aMR hc;omega
  · obtain⟨i,hi,rfl⟩:=aRa hy
    have he:=a6B hok hi;rw[aQe,aPU hi] at he;obtain⟨r0,r4⟩:=UQ he;have:=aMP (hc.ent _ hy) r0 r4;omega
  ·simp
def A5 (c:C4):List UInt8:=FE (wD c) (c.2.2.2.1.map v6) []
theorem aMU {c:C4}(hc:FC c) (hok:uZ c=true):(A5 c).length≤2004000000000:=by
  have h:=aMT hc hok;have hl:=hc.len
  have e:A5 c=(([wD c]++c.2.2.2.1.map v6)++[[]]).flatMap (fun x=>x):=by
    unfold A5 FE;simp [List.flatMap_def];rfl
  have:=HA (l:=([wD c]++c.2.2.2.1.map v6)++[[]]) (h:=fun x=>x) (B:=2000000000) h;rw[e];simp only[aPP,aQF,aRt] at this;omega
theorem a6N {c:C4}(hc:FC c):CD c=some (if uZ c=true then(A5 c,0) else([],1)):=by
  unfold CD;rw[aMS hc,aPM];by_cases hok:uZ c=true
  · have hl:=hc.len
    have:=aMU hc hok;rw[if_pos hok,if_pos hok];dsimp only;rw[aE3 (wD c,(c.2.2.2.1.map v6,([],()))) (by simp;omega) (by show (A5 c).length≤_;omega),aPM];rfl
  · rw[if_neg hok,if_neg hok]
    dsimp only;rw[aE3 ([],([],([],()))) (by simp) (by simp [FE]),aPM];rfl
theorem aFu (x:UInt8) (u:List UInt8):uS x (u++[x])=u:=by unfold uS;rw[if_pos (by simp)];simp
theorem aFv {d:UInt8}: ∀(a t:List UInt8),(∀b∈a,b≠d/\b≠92)->rS d (a++t)=(rS d t).map (· +a.length)
 |[],t,_=>by simp
 |b::a,t,h=>by
  obtain⟨h1,h2⟩:=h b aP8;rw[List.cons_append,J4 h1 h2,aFv a t (fun c hc=>h c (aP1 _ hc)),Option.map_map];congr 1
theorem aMV (z:List UInt8):rS 61 (32::61::z)=some 1:=by
 rw[J4 (by decide) (by decide),PA rfl];rfl
theorem aFw {a e:List UInt8}(hk: ∀t:List UInt8,rS 61 (a++t)=(rS 61 t).map (· +a.length)):DK ((a++[32,61,32])++e)=some (a,e):=by
 have e0:(a++[32,61,32])++e=a++(32::61::32::e):=by simp
 have e1:a++(32::61::32::e)=(a++[32])++(61::32::e):=by simp
 have e2:a++(32::61::32::e)=(a++[32,61])++(32::e):=by simp
 unfold DK;rw[e0,hk,aMV];show some (uS 32 ((a++(32::61::32::e)).take (1+a.length)),A3 32 ((a++(32::61::32::e)).drop (1+a.length+1)))=_;have h1:(a++(32::61::32::e)).take (1+a.length)=a++[32]:=by rw[e1,List.take_left' (by simp;omega)]
 have h2:(a++(32::61::32::e)).drop (1+a.length+1)=32::e:=by rw[e2,List.drop_left' (by simp;omega)]
 rw[h1,h2,aFu];rfl
theorem UY {v:List UInt8}(h:rR v=true):vC (rF 1 v)=(v,true):=by
 have h1:xQ (1:Int) (rF 1 v)=(v,0,0):=aE7 (n:=1) (.inl rfl) v;unfold vC;rw[h1,h];rfl
theorem a6O {b:UInt8}{u:List UInt8}(h:F7 b=false):CG ((b::u)++[10])=b::u:=by
 unfold CG;rw[aFu,List.dropWhile_cons,h];rfl
theorem aFx {a' v:List UInt8}(hk: ∀t:List UInt8,rS 61 ((33::a')++t)=(rS 61 t).map (· +(33::a':List UInt8).length)) (hv:rR v=true) (hl:(rJ (33::a') v).length<=4000000000):
  uQ (rJ (33::a') v)=some ((vD (33::a')).1,(vD (33::a')).2,v,false):=by
 have hz:rJ (33::a') v=(33::(a'++[32,61,32]++rF 1 v))++[10]:=by
  unfold rJ;simp only[List.cons_append]
 have e:((33::a')++[32,61,32])++rF 1 v=33::(a'++[32,61,32]++rF 1 v):=by simp only[List.cons_append]
 have hc:CG (rJ (33::a') v)=33::(a'++[32,61,32]++rF 1 v):=by
  rw[hz];exact a6O rfl
 have hle:(rF 1 v).length<=4000000000:=by
  unfold rJ at hl;simp only[aPP,aPR,aPZ] at hl;omega
 have hs:pK (((33::a')++[32,61,32])++rF 1 v):=by
  unfold pK;unfold rJ at hl;simp only[aPP,aPR,aPZ] at hl⊢;omega
 have hS:=a6k hs;rw[aFw hk] at hS;have hN:=aEj (s:=((33::a')++[32,61,32])++rF 1 v) (a:=33::a') (v0:=rF 1 v) hS hle;rw[UY hv,e] at hN;unfold uQ;rw[M4 (by unfold pK;exact hl),hc,aPM,if_neg (by simp),M3,aPM,H0];rw[if_neg (UR (by decide)),F6,aPM,CF,if_neg (by simp),F6,aPM,CF,if_pos (by simp),hN,aPM];rfl
theorem aFy {a:List UInt8}(h:(a.all fun b=>decide (b≠61)&&decide (b≠92))=true): ∀t:List UInt8,rS 61 (a++t)=(rS 61 t).map (· +a.length):=fun t=>
 aFv a t fun b hb=>by
  have:=aQt.1 h b hb;simpa using this
theorem aMW {x:List UInt8}(h:sC x=true):(([33,58]++x).all fun b=>decide (b≠61)&&decide (b≠92))=true:=by
 have hw:=aFa h;unfold UT at hw;rw[aPT] at hw;rw[List.all_append];have h2:(x.all fun b=>decide (b≠61)&&decide (b≠92))=true:=by
  rw[aQt];intro b hb;have:=aQt.1 hw.1 b hb;simp only[aPT,aPQ];constructor
  ·rintro rfl;revert this;decide
  ·rintro rfl;revert this;decide
 rw[h2];rfl
theorem aMX (x:List UInt8):vD ([33,58]++x)=(7,x):=by
 unfold vD;rw[if_neg (by simp),if_neg (by simp),if_neg (by simp),if_neg (by simp),if_pos (by rfl)];rfl
theorem aFz {x:List UInt8}(hx:rR x=true) (hl:(sR x).length<=4000000000):uQ (sR x)=some (2,[],x,false):=by
 have hz:sR x=(35::46::32::rF 1 x)++[10]:=by
  unfold sR;simp only[List.cons_append,List.nil_append]
 have hc:CG (sR x)=35::46::32::rF 1 x:=by
  rw[hz];exact a6O rfl
 have hle:(rF 1 x).length<=4000000000:=by
  unfold sR at hl;simp only[aPP,aPR,aPZ] at hl;omega
 have hb2:pZ (35::46::32::rF 1 x) 2=((32:UInt8).toNat:Int):=rfl;have hc3:pR (35::46::32::rF 1 x) 3 ((35::46::32::rF 1 x).length:Int)=rF 1 x:=A1 (k:=3);unfold uQ;rw[M4 (by unfold pK;exact hl),hc,aPM,if_neg (show¬decide ((35::46::32::rF 1 x:List UInt8)=[])=true by simp),M3,aPM,H0,if_pos (by rfl),if_neg (show¬decide ((35::46::32::rF 1 x:List UInt8)=[35,46])=true by simp)];rw[if_pos (show 0<=(2:Int)/\(2:Int)<((35::46::32::rF 1 x).length:Int) by simp only[aPR];omega),hb2,if_neg (by decide),if_pos (show 0<=(3:Int)/\(3:Int)<=((35::46::32::rF 1 x).length:Int)/\((35::46::32::rF 1 x).length:Int)<=((35::46::32::rF 1 x).length:Int) by simp only[aPR];omega),hc3,JA hle,aPM,UY hx];rfl
theorem aMY:uQ [10]=some (0,[],[],false):=by
 unfold uQ;rw[M4 (by unfold pK;decide),show CG [10]=[] from rfl];rfl
theorem aMZ:uQ [37,37,10]=some (8,[],[],false):=by
 unfold uQ;rw[M4 (by unfold pK;decide),show CG [37,37,10]=[37,37] from rfl,aPM,if_neg (by decide),M3,aPM,H0,if_neg (by decide),F6,aPM,CF,if_neg (by decide),F6,aPM,CF,if_neg (by decide),if_pos (by decide)]
theorem aM0:((List.range 256).all fun b=>match uB 1 b true with|[]=>false|c::_=> !(decide (c=32)||decide (c=9)||decide (c=35)||decide (c=33)))=true:=by kernel_rfl
theorem aM1 (x:List UInt8) (h:x≠[]): ∃c u,rF 1 x=c::u/\c≠32/\c≠9/\c≠35/\c≠33:=by
 cases x with
 |nil=>exact absurd rfl h
 |cons b t=>
  have h1:=aQt.1 aM0 b.toNat (aRo.2 (UInt8.toNat_lt _));rw[PU];unfold yA;cases he:uB 1 b.toNat true with
  |nil=>rw[he] at h1;cases h1
  |cons c u=>
   rw[he] at h1;simp only[aQf,aQZ,aQq] at h1;exact⟨c,u++yA 1 false t,rfl,h1.1.1.1,h1.1.1.2,h1.1.2,h1.2⟩
theorem aM2 {k v:List UInt8}(hk:k≠[]) (hkt:rR k=true) (hv:rR v=true) (hl:(rJ (rF 1 k) v).length<=4000000000):uQ (rJ (rF 1 k) v)=some (9,k,v,false):=by
 obtain⟨c,u,hcu,c1,c2,c3,c4⟩:=aM1 k hk;have hkk: ∀t:List UInt8,rS 61 (rF 1 k++t)=(rS 61 t).map (· +(rF 1 k).length):=fun t=>by
  rw[PU];exact a6z (n:=1) (.inl rfl) k true t
 have hs:pK ((rF 1 k++[32,61,32])++rF 1 v):=by
  unfold pK;unfold rJ at hl;simp only[aPP,aPR,aPZ] at hl⊢;omega
 have hle:(rF 1 k).length<=4000000000/\(rF 1 v).length<=4000000000:=by
  unfold pK at hs;simp only[aPP,aPR,aPZ] at hs;omega
 have hS:=a6k hs;rw[aFw hkk] at hS;have hne:rF 1 k≠[]:=by rw[hcu];simp
 have hc:CG (rJ (rF 1 k) v)=(rF 1 k++[32,61,32])++rF 1 v:=by
  unfold rJ;rw[hcu];refine a6O (b:=c) (u:=u++[32,61,32]++rF 1 v) ?_;unfold F7;simp [c1,c2]
 unfold uQ;rw[M4 (by unfold pK;exact hl),hc,aPM,if_neg (show¬decide (((rF 1 k++[32,61,32])++rF 1 v:List UInt8)=[])=true by simp),M3,aPM,H0];have hb: ∀x y:UInt8,c≠x->¬sW x y ((rF 1 k++[32,61,32])++rF 1 v)=true:=fun x y h=>by
  rw[hcu];exact UR h
 have hh: ∀x:UInt8,c≠x->¬decide (((rF 1 k++[32,61,32])++rF 1 v).head? =some x)=true:=fun x h=>by
  rw[hcu];simp [h]
 rw[if_neg (hb 35 46 c3),F6,aPM,CF,if_neg (hh 35 c3),F6,aPM,CF,if_neg (hh 33 c4)];rw[if_neg (by
  intro h;have:=aQk List.length (aQu h);simp only[aPP,aPR,aPZ] at this;omega),hS,aPM]
 show (if ((!true)||decide (rF 1 k=[]))=true then _ else _)=_
 rw[if_neg (by simp [hne])];show (CB (rF 1 k)).bind _=_;rw[JA hle.1,aPM];show (CB (rF 1 v)).bind _=_;rw[JA hle.2,aPM,UY hkt,UY hv];rfl
theorem JL {l:List UInt8}{ls:List (List UInt8)}{b b':RS}(h:xD l b=some (.inl b')):tU (l::ls) b=tU ls b':=by
 rw[tU,h,aPM]
section
variable {id src tg v k:List UInt8}{cm fl:List (List UInt8)}{st op:Int}{fd:List qU}{hs ht:Bool}
theorem aFA (h:cm.length<20):tM ((id,(src,(tg,(cm,(fl,(st,(fd,()))))))),(hs,(ht,(op,())))) (2,(k,(v,(false,()))))=some (src,cm++[v],fl,st,fd,hs,ht,0):=by
 unfold tM;dsimp only;rw[if_pos (by simp),if_neg (by simp),if_neg (by simp;omega),if_pos (by simp;omega),if_pos (by simp;omega),List.nil_append]
theorem aM3:tM ((id,(src,(tg,(cm,(fl,(st,(fd,()))))))),(false,(ht,(op,())))) (4,(k,(v,(false,()))))=some (v,cm,fl,st,fd,true,ht,0):=by
 unfold tM;dsimp only;rw[if_neg (by simp),if_pos (by simp),if_neg (by simp),if_neg (by simp)]
theorem aM4 {n:Int}(h0:0<=n) (h4:n<=4):tM ((id,(src,(tg,(cm,(fl,(st,(fd,()))))))),(hs,(false,(op,())))) (5,(k,(pQ .str vV n,(false,()))))=some (src,cm,fl,n,fd,hs,true,0):=by
 unfold tM;dsimp only;rw[if_neg (by simp),if_neg (by simp),if_pos (by simp),U1,if_pos uA,aMo h0 h4];rw[if_neg (by
  show¬(false||decide (n<0))=true
  simp;omega),if_neg (by simp),aPM]
theorem aM5 (h:fl.length<20) (hn:sC v=true) (hlt: ∀y∈fl,y<v):tM ((id,(src,(tg,(cm,(fl,(st,(fd,()))))))),(hs,(ht,(op,())))) (6,(k,(v,(false,()))))=some (src,cm,fl++[v],st,fd,hs,ht,0):=by
 have hf:pK v:=by have:=w4 (JI hn);unfold pK;omega
 have hfl:pK fl:=by unfold pK;omega
 have hnone:(fl.any fun y=>decide (y=v))=false:=by
  rw[aQx];intro y hy;have:=hlt y hy;simp only[aPQ];intro he;rw[he] at this;exact List.lt_irrefl _ this
 unfold tM;dsimp only;rw[if_neg (by simp),if_neg (by simp),if_neg (by simp),if_pos (by simp),DE _ hf,if_pos uA,hn];rw[if_neg (show¬(false|| !val (some true))=true from by decide),a6o _ _ hfl,aPM,hnone,if_neg (by simp),if_neg (by simp;omega),a6p hfl,aPM,aMm hlt]
theorem aFB (h:fd.length<20) (hn:sC k=true) (hlt: ∀y∈fd,y.1<k):tM ((id,(src,(tg,(cm,(fl,(st,(fd,()))))))),(hs,(ht,(op,())))) (7,(k,(v,(false,()))))=some (src,cm,fl,st,fd++[(k,(v,()))],hs,ht,0):=by
 have hf:pK k:=by have:=w4 (JI hn);unfold pK;omega
 have hfd:pK fd:=by unfold pK;omega
 have hnone:(fd.any fun y=>decide (y.1=k))=false:=by
  rw[aQx];intro y hy;have:=hlt y hy;simp only[aPQ];intro he;rw[he] at this;exact List.lt_irrefl _ this
 unfold tM;dsimp only;rw[if_neg (by simp),if_neg (by simp),if_neg (by simp),if_neg (by simp),if_pos (by simp),DE _ hf,if_pos uA,hn];rw[if_neg (show¬(false|| !val (some true))=true from by decide),a5Q _ _ hfd,aPM,a5P,hnone,if_neg (by simp),if_neg (by simp;omega),a5R _ _ _ hfd,aPM,aMn hlt]
end
abbrev hB (at_ i:Int) (tag:List UInt8) (cm:List (List UInt8)) (fd:List qU):RS:=([],at_,i,tag,[],[],[],[],[],[],cm,[],0,fd,false,false,-1)
section
variable {line:List UInt8}{at_ i:Int}{tag k v:List UInt8}{cm cm':List (List UInt8)}{fd fd':List qU}
theorem aFC {f:Int}(hq:uQ line=some (f,k,v,false)) (hf:f=2\/f=7)
  (hA:tM (([],([],([],(cm,([],(0,(fd,()))))))),(false,(false,(-1,())))) (f,(k,(v,(false,()))))=some ([],cm',[],0,fd',false,false,0)):
  xD line (hB at_ i tag cm fd)=some (.inl (hB (at_+(line.length:Int)) (i+1) tag cm' fd')):=by
 have hr:uH (hB at_ i tag cm fd) (f,k,v,false)=some (0,false,tag,[],[],[],[],[],[],cm',[],0,fd',false,false,-1):=by
  unfold uH;dsimp only;rw[if_pos (by simp)];unfold xK rC;dsimp only;rcases hf with rfl|rfl
  ·rw[if_neg (by simp),aPM,if_neg (by simp),if_pos (by simp),aPM,if_pos (by simp),hA,aPM,aPM]
  ·rw[if_neg (by simp),aPM,if_neg (by simp),if_neg (by simp),aPM,if_pos (by simp),hA,aPM,aPM]
 unfold xD;rw[hq,aPM,hr,aPM];dsimp only;rw[if_neg (by simp),if_neg (by simp)]
theorem aM6 (hq:uQ line=some (3,k,v,false)) (ht:uD v=true):xD line (hB at_ i [] cm fd)=some (.inl (hB (at_+(line.length:Int)) (i+1) v cm fd)):=by
 have hf:pK v:=by have:=w4 (a6C ht);unfold pK;omega
 have hr:uH (hB at_ i [] cm fd) (3,k,v,false)=some (0,false,v,[],[],[],[],[],[],cm,[],0,fd,false,false,-1):=by
  unfold uH;dsimp only;rw[if_pos (by simp)];unfold xK rC;dsimp only;rw[if_neg (by simp),aPM,if_neg (by simp),if_neg (by simp),aPM,if_neg (by simp),if_pos (by simp),P9 _ hf,if_pos uA,ht];rw[if_neg (show¬(false|| !val (some true))=true from by decide),if_neg (by simp),aPM]
 unfold xD;rw[hq,aPM,hr,aPM];dsimp only;rw[if_neg (by simp),if_neg (by simp)]
abbrev eB (ends:List Int) (at_ i:Int) (tag:List UInt8) (cms:List (List UInt8)) (fds:List qU) (es:List sY) (src:List UInt8) (cm fl:List (List UInt8)) (st:Int) (fd:List qU) (hs ht:Bool) (op:Int):RS:=
 (ends,at_,i,tag,cms,fds,es,[],src,[],cm,fl,st,fd,hs,ht,op)
theorem aM7 (hq:uQ line=some (8,k,v,false)) (ht:tag≠[]):xD line (hB at_ i tag cm fd)=some (.inl (eB [at_+(line.length:Int)] (at_+(line.length:Int)) (i+1) tag cm fd [] [] [] [] 0 [] false false (-1))):=by
 have hr:uH (hB at_ i tag cm fd) (8,k,v,false)=some (0,true,tag,cm,fd,[],[],[],[],[],[],0,[],false,false,-1):=by
  unfold uH;dsimp only;rw[if_pos (by simp)];unfold xK rC;dsimp only;rw[if_neg (by simp),aPM,if_neg (by simp),if_neg (by simp),aPM,if_neg (by simp),if_neg (by simp),if_pos (by simp),if_neg (by simpa using ht),aPM]
 unfold xD;rw[hq,aPM,hr,aPM];dsimp only;rw[if_neg (by simp),if_pos rfl,if_pos (by simp)];rfl
end
section
variable {line:List UInt8}{ends:List Int}{at_ i:Int}{tag k v src src':List UInt8}{cms cm cm' fl fl':List (List UInt8)}{fds fd fd':List qU}{es:List sY}{st st' op:Int}{hs ht hs' ht':Bool}
theorem PX {f:Int}(hne:ends≠[]) (hq:uQ line=some (f,k,v,false)) (hf:f=2\/f=4\/f=5\/f=6\/f=7)
  (hA:tM (([],(src,([],(cm,(fl,(st,(fd,()))))))),(hs,(ht,(op,())))) (f,(k,(v,(false,()))))=some (src',cm',fl',st',fd',hs',ht',0)):
  ∃op',xD line (eB ends at_ i tag cms fds es src cm fl st fd hs ht op)=some (.inl (eB ends (at_+(line.length:Int)) (i+1) tag cms fds es src' cm' fl' st' fd' hs' ht' op')):=by
 have h9: ¬decide (f=9)=true:=by rcases hf with rfl|rfl|rfl|rfl|rfl<;>decide
 have hm:(((decide ((2:Int)<=f))&&(decide (f<=(7:Int))))&&(!decide (f=(3:Int))))=true:=by rcases hf with rfl|rfl|rfl|rfl|rfl<;>decide
 have hr: ∃op',uH (eB ends at_ i tag cms fds es src cm fl st fd hs ht op) (f,k,v,false)=some (0,false,tag,cms,fds,es,[],src',[],cm',fl',st',fd',hs',ht',op'):=by
  unfold uH;dsimp only;rw[if_neg (by simp [hne]),if_neg h9,if_pos hm,hA,aPM];by_cases hop:decide (op<0)=true
  ·rw[if_pos hop];exact⟨_,rfl⟩
  ·rw[if_neg hop];exact⟨_,rfl⟩
 obtain⟨op',hr⟩:=hr;refine⟨op',?_⟩;unfold xD;rw[hq,aPM,hr,aPM];dsimp only;rw[if_neg (by simp),if_neg (by simp)]
theorem aM8 (hne:ends≠[]) (hq:uQ line=some (0,k,v,false)):xD line (eB ends at_ i tag cms fds es src cm fl st fd hs ht op)=some (.inl (eB ends (at_+(line.length:Int)) (i+1) tag cms fds es src cm fl st fd hs ht op)):=by
 have hr:uH (eB ends at_ i tag cms fds es src cm fl st fd hs ht op) (0,k,v,false)=some (0,false,tag,cms,fds,es,[],src,[],cm,fl,st,fd,hs,ht,op):=by
  unfold uH;dsimp only;rw[if_neg (by simp [hne]),if_neg (by simp),if_neg (by simp),if_neg (by simp)]
 unfold xD;rw[hq,aPM,hr,aPM];dsimp only;rw[if_neg (by simp),if_neg (by simp)]
theorem aM9 (hne:ends≠[]) (hq:uQ line=some (9,k,v,false)) (hk:J9 k=true) (hes:es.length<1000) (hen:ends.length<=5000) (hnew:(es.any fun y=>decide (y.1=k))=false):
  xD line (eB ends at_ i tag cms fds es src cm fl st fd hs ht op)=some (.inl (eB (ends++[at_+(line.length:Int)]) (at_+(line.length:Int)) (i+1) tag cms fds (es++[(k,(src,(v,(cm,(fl,(st,(fd,())))))))]) [] [] [] 0 [] false false (-1))):=by
 have hk': ¬((false||(decide (k=([]:List UInt8))))||(decide ((200:Int)<(k.length:Int))))=true:=by
  unfold J9 at hk;simp only[aPT,aQf,aQq,aPQ] at hk;simp [hk.1];omega
 have hcl:EH (tag,(cms,(fds,(es,())))) (([],(src,([],(cm,(fl,(st,(fd,()))))))),(hs,(ht,(op,())))) (9,(k,(v,(false,()))))=some (es++[(k,(src,(v,(cm,(fl,(st,(fd,())))))))],0):=by
  unfold EH;dsimp only;rw[if_neg hk',UE _ _ (show es.length<=5000 by omega),aPM,a59];rw[if_neg (fun hh=>aQr (hnew.symm.trans hh)),if_neg (show¬decide ((1000:Int)<=(es.length:Int))=true from by simp;omega),if_pos (by simp;omega),if_pos (by simp;omega),List.nil_append]
 have hr:uH (eB ends at_ i tag cms fds es src cm fl st fd hs ht op) (9,k,v,false)=some (0,true,tag,cms,fds,es++[(k,(src,(v,(cm,(fl,(st,(fd,())))))))],[],[],[],[],[],0,[],false,false,-1):=by
  unfold uH;dsimp only;rw[if_neg (by simp [hne]),if_pos (by simp),hcl,aPM]
 unfold xD;rw[hq,aPM,hr,aPM];dsimp only;rw[if_neg (by simp),if_pos rfl,if_pos (by omega)]
end
theorem MD {α:Type}(f:α->List UInt8) (st:Int->Int->Int->List α->RS) (rest:List (List UInt8)) (ok:List α->α->Prop)
  (hstep: ∀at_ i op acc x,ok acc x->∃op',xD (f x) (st at_ i op acc)=some (.inl (st (at_+((f x).length:Int)) (i+1) op' (acc++[x])))):
  ∀(l acc:List α) (at_ i op:Int),(∀p x q,l=p++x::q->ok (acc++p) x)->∃i' op',tU (l.map f++rest) (st at_ i op acc)=tU rest (st (at_+(((l.map f).flatten.length:Nat):Int)) i' op' (acc++l))
 |[],acc,at_,i,op,_=>⟨i,op,by simp⟩
 |x::l,acc,at_,i,op,h=>by
  have h0:=h [] x l rfl;rw[List.append_nil] at h0;obtain⟨op1,h1⟩:=hstep at_ i op acc x h0;obtain⟨i2,op2,h2⟩:=MD f st rest ok hstep l (acc++[x]) (at_+((f x).length:Int)) (i+1) op1 (fun p y q e=>by
   rw[aPW];exact h (x::p) y q (by rw[e];rfl))
  refine⟨i2,op2,?_⟩;rw[aQO,List.cons_append,JL h1,h2,aPW,aQ1];congr 2;rw[aQP,aPP];omega
theorem a6P {a v:List UInt8}(ha:a.length<=1000000) (hv:rR v=true):(rJ a v).length<=4000000000:=by
 have h1:=FD (n:=1) (.inl rfl) v;have h2:=w4 hv;unfold rJ;simp only[aPP,aPR,aPZ];omega
theorem aFD {v:List UInt8}(hv:rR v=true):(sR v).length<=4000000000:=by
 have h1:=FD (n:=1) (.inl rfl) v;have h2:=w4 hv;unfold sR;simp only[aPP,aPR,aPZ];omega
theorem aFE {l:List (List UInt8)}(h:uY l=true): ∀p x q,l=p++x::q->p.length<20/\rR x=true:=by
 obtain⟨h1,h2⟩:=M8 h;rintro p x q rfl;refine⟨?_,h2 x (by simp)⟩;simp only[aPP,aPR] at h1;omega
theorem aNa {l:List (List UInt8)}(h:zG l=true): ∀p x q,l=p++x::q->p.length<20/\sC x=true/\∀y∈p,y<x:=by
 obtain⟨h1,h2,h3⟩:=UU h;rintro p x q rfl;refine⟨?_,h2 x (by simp),fun y hy=>(aQ7.1 h3).2.2 y hy x aP8⟩;simp only[aPP,aPR] at h1;omega
theorem aFF {l:List qU}(h:uT l=true): ∀p x q,l=p++x::q->p.length<20/\(sC x.1=true/\rR x.2.1=true)/\∀y∈p,y.1<x.1:=by
 obtain⟨h1,h2,h3⟩:=FF h;rintro p x q rfl;refine⟨?_,⟨(h2 x (by simp)).1,(h2 x (by simp)).2.2⟩,fun y hy=>(aQ7.1 h3).2.2 y hy x aP8⟩;simp only[aPP,aPR] at h1;omega
theorem aFG {x:qU}(hn:sC x.1=true) (hv:rR x.2.1=true):uQ (uE x)=some (7,x.1,x.2.1,false):=by
 have h:=aFx (a':=58::x.1) (v:=x.2.1) (aFy (aMW hn)) hv (a6P (by have:=w4 (JI hn);simp only[aPR];omega) hv);have hb:vD (33::58::x.1)=(7,x.1):=aMX x.1;rw[hb] at h;exact h
theorem UZ {a' v:List UInt8}{n:Int}(hp:((33::a':List UInt8).all fun b=>decide (b≠61)&&decide (b≠92))=true) (hb:vD (33::a')=(n,[])) (hl:a'.length<=1000) (hv:rR v=true):uQ (rJ (33::a') v)=some (n,[],v,false):=by
 have h:=aFx (aFy hp) hv (a6P (by simp only[aPR];omega) hv);rw[hb] at h;exact h
section
variable {tag:List UInt8}{rest:List (List UInt8)}
theorem aNb {l:List (List UInt8)}(h:uY l=true) (at_ i:Int): ∃i',tU (l.map sR++rest) (hB at_ i tag [] [])=tU rest (hB (at_+(((l.map sR).flatten.length:Nat):Int)) i' tag l []):=by
 obtain⟨i',_,e⟩:=MD sR (fun a i _ acc=>hB a i tag acc []) rest (fun acc x=>acc.length<20/\rR x=true) (fun a i op acc x hx=>⟨0,aFC (aFz hx.2 (aFD hx.2)) (.inl rfl) (aFA hx.1)⟩) l [] at_ i 0 (by simpa using aFE h);exact⟨i',by simpa using e⟩
theorem aNc {l:List qU}{cm:List (List UInt8)}(h:uT l=true) (at_ i:Int): ∃i',tU (l.map uE++rest) (hB at_ i tag cm [])=tU rest (hB (at_+(((l.map uE).flatten.length:Nat):Int)) i' tag cm l):=by
 obtain⟨i',_,e⟩:=MD uE (fun a i _ acc=>hB a i tag cm acc) rest (fun acc x=>acc.length<20/\(sC x.1=true/\rR x.2.1=true)/\∀y∈acc,y.1<x.1) (fun a i op acc x hx=>⟨0,aFC (aFG hx.2.1.1 hx.2.1.2) (.inr rfl) (aFB hx.1 hx.2.1.1 hx.2.2)⟩) l [] at_ i 0 (by simpa using aFF h);exact⟨i',by simpa using e⟩
end
def FL (c:C4):List (List UInt8):=c.2.1.map sR++(rJ BH c.1::(c.2.2.1.map uE++[[37,37,10]]))
theorem aFH (c:C4):(FL c).flatten=wD c:=by
 unfold FL wD DN FI;simp only[List.flatten_append,aQP,List.flatten_nil,List.append_nil,List.flatMap_def,aPW]
theorem aNd {c:C4}{rest:List (List UInt8)}(ht:uD c.1=true) (hc:uY c.2.1=true) (hf:uT c.2.2.1=true):
  ∃i',tU (FL c++rest) JF=tU rest (eB [((wD c).length:Int)] ((wD c).length:Int) i' c.1 c.2.1 c.2.2.1 [] [] [] [] 0 [] false false (-1)):=by
 have hl:(wD c).length=(c.2.1.map sR).flatten.length+((rJ BH c.1).length+((c.2.2.1.map uE).flatten.length+3)):=by
  rw[<-aFH];unfold FL;simp only[List.flatten_append,aQP,List.flatten_nil,aPP,aPR,aPZ]
 have e:FL c++rest=c.2.1.map sR++(rJ BH c.1::(c.2.2.1.map uE++([37,37,10]::rest))):=by
  unfold FL;simp only[aPW,List.cons_append,List.nil_append]
 obtain⟨i1,e1⟩:=aNb (tag:=[]) (rest:=rJ BH c.1::(c.2.2.1.map uE++([37,37,10]::rest))) hc 0 0;have s1:=aM6 (at_:=0+(((c.2.1.map sR).flatten.length:Nat):Int)) (i:=i1) (cm:=c.2.1) (fd:=[]) (UZ (a':=[116,97,103]) (by decide) (by decide) (by decide) (a6C ht)) ht;obtain⟨i2,e2⟩:=aNc (tag:=c.1) (cm:=c.2.1) (rest:=[37,37,10]::rest) hf (0+(((c.2.1.map sR).flatten.length:Nat):Int)+(((rJ BH c.1).length:Nat):Int)) (i1+1);have s2:=aM7 (at_:=0+(((c.2.1.map sR).flatten.length:Nat):Int)+(((rJ BH c.1).length:Nat):Int)+(((c.2.2.1.map uE).flatten.length:Nat):Int)) (i:=i2) (cm:=c.2.1) (fd:=c.2.2.1) aMZ (aEy ht);refine⟨i2+1,?_⟩;rw[e,show JF=hB 0 0 [] [] [] from rfl,e1,JL s1,e2,JL s2];have e3:(0:Int)+(((c.2.1.map sR).flatten.length:Nat):Int)+(((rJ BH c.1).length:Nat):Int)+(((c.2.2.1.map uE).flatten.length:Nat):Int)+((([37,37,10]:List UInt8).length:Nat):Int)=((wD c).length:Int):=by
  rw[hl];simp only[aPR,aPZ];omega
 rw[e3]
section
variable {tag src:List UInt8}{rest:List (List UInt8)}{ends:List Int}{cms cm fl:List (List UInt8)}{fds fd:List qU}{es:List sY}{st op:Int}{hs ht:Bool}(hne:ends≠[])
include hne
theorem aNe {l:List (List UInt8)}(h:uY l=true) (at_ i op:Int): ∃i' op',tU (l.map sR++rest) (eB ends at_ i tag cms fds es src [] fl st fd hs ht op)=tU rest (eB ends (at_+(((l.map sR).flatten.length:Nat):Int)) i' tag cms fds es src l fl st fd hs ht op'):=by
 obtain⟨i',op',e⟩:=MD sR (fun a i o acc=>eB ends a i tag cms fds es src acc fl st fd hs ht o) rest (fun acc x=>acc.length<20/\rR x=true) (fun a i o acc x hx=>PX hne (aFz hx.2 (aFD hx.2)) (.inl rfl) (aFA hx.1)) l [] at_ i op (by simpa using aFE h);exact⟨i',op',by simpa using e⟩
theorem aNf {l:List (List UInt8)}(h:zG l=true) (at_ i op:Int): ∃i' op',tU (l.map (rJ xT)++rest) (eB ends at_ i tag cms fds es src cm [] st fd hs ht op)=tU rest (eB ends (at_+(((l.map (rJ xT)).flatten.length:Nat):Int)) i' tag cms fds es src cm l st fd hs ht op'):=by
 obtain⟨i',op',e⟩:=MD (rJ xT) (fun a i o acc=>eB ends a i tag cms fds es src cm acc st fd hs ht o) rest (fun acc x=>acc.length<20/\sC x=true/\∀y∈acc,y<x) (fun a i o acc x hx=>PX hne (UZ (a':=[102,108,97,103]) (by decide) (by decide) (by decide) (JI hx.2.1)) (.inr (.inr (.inr (.inl rfl)))) (aM5 hx.1 hx.2.1 hx.2.2)) l [] at_ i op (by simpa using aNa h);exact⟨i',op',by simpa using e⟩
theorem aNg {l:List qU}(h:uT l=true) (at_ i op:Int): ∃i' op',tU (l.map uE++rest) (eB ends at_ i tag cms fds es src cm fl st [] hs ht op)=tU rest (eB ends (at_+(((l.map uE).flatten.length:Nat):Int)) i' tag cms fds es src cm fl st l hs ht op'):=by
 obtain⟨i',op',e⟩:=MD uE (fun a i o acc=>eB ends a i tag cms fds es src cm fl st acc hs ht o) rest (fun acc x=>acc.length<20/\(sC x.1=true/\rR x.2.1=true)/\∀y∈acc,y.1<x.1) (fun a i o acc x hx=>PX hne (aFG hx.2.1.1 hx.2.1.2) (.inr (.inr (.inr (.inr rfl)))) (aFB hx.1 hx.2.1.1 hx.2.2)) l [] at_ i op (by simpa using aFF h);exact⟨i',op',by simpa using e⟩
def A6 (x:List UInt8):List (List UInt8):=if x=[] then[] else[rJ PV x]
def A7 (n:Int):List (List UInt8):=if n=0 then[] else[rJ PW (pQ .str vV n)]
theorem aNh {x:List UInt8}(h:rR x=true) (at_ i op:Int): ∃i' op' hs',tU (A6 x++rest) (eB ends at_ i tag cms fds es [] cm fl st fd false ht op)=tU rest (eB ends (at_+(((A6 x).flatten.length:Nat):Int)) i' tag cms fds es x cm fl st fd hs' ht op'):=by
 unfold A6;by_cases hx:x=[]
 ·subst hx;exact⟨i,op,false,by simp⟩
 ·rw[if_neg hx];obtain⟨op',hst⟩:=PX (at_:=at_) (i:=i) (tag:=tag) (cms:=cms) (fds:=fds) (es:=es) hne (UZ (a':=[115,111,117,114,99,101]) (by decide) (by decide) (by decide) h) (.inr (.inl rfl)) (aM3 (src:=[]) (cm:=cm) (fl:=fl) (st:=st) (fd:=fd) (ht:=ht) (op:=op) (v:=x));exact⟨i+1,op',true,by rw[aQ1,JL hst];simp⟩
theorem aNi {n:Int}(h0:0<=n) (h4:n<=4):rR (pQ .str vV n)=true:=by
 have:n=0\/n=1\/n=2\/n=3\/n=4:=by omega
 rcases this with rfl|rfl|rfl|rfl|rfl<;>exact JI (by decide)
theorem aNj {n:Int}(h0:0<=n) (h4:n<=4) (at_ i op:Int): ∃i' op' ht',tU (A7 n++rest) (eB ends at_ i tag cms fds es src cm fl 0 fd hs false op)=tU rest (eB ends (at_+(((A7 n).flatten.length:Nat):Int)) i' tag cms fds es src cm fl n fd hs ht' op'):=by
 unfold A7;by_cases hx:n=0
 ·subst hx;exact⟨i,op,false,by simp⟩
 ·rw[if_neg hx];obtain⟨op',hst⟩:=PX (at_:=at_) (i:=i) (tag:=tag) (cms:=cms) (fds:=fds) (es:=es) hne (UZ (a':=[115,116,97,116,101]) (by decide) (by decide) (by decide) (aNi hne h0 h4)) (.inr (.inr (.inl rfl))) (aM4 (src:=src) (cm:=cm) (fl:=fl) (st:=0) (fd:=fd) (hs:=hs) (op:=op) h0 h4);exact⟨i+1,op',true,by rw[aQ1,JL hst];simp⟩
end
def BJ (x:sY):List (List UInt8):=[10]::(x.2.2.2.1.map sR++(A6 x.2.1++(A7 x.2.2.2.2.2.1++(x.2.2.2.2.1.map (rJ xT)++(x.2.2.2.2.2.2.1.map uE++[rJ (rF 1 x.1) x.2.2.1])))))
theorem aFI (x:sY):(BJ x).flatten=v6 x:=by
 unfold BJ v6 JK FK FJ DN JJ FI A6 A7;simp only[aQP,List.flatten_append,List.flatten_nil,List.append_nil,List.flatMap_def,aPW];congr 3
 ·split<;>simp
 ·congr 1;split<;>simp
theorem aNk {x:sY}{tag:List UInt8}{rest:List (List UInt8)}{ends:List Int}{cms:List (List UInt8)}{fds:List qU}{es:List sY}(hne:ends≠[]) (h:wZ x=true) (hes:es.length<1000) (hen:ends.length<=5000) (hnew:(es.any fun y=>decide (y.1=x.1))=false) (a:Nat) (i:Int):
  ∃i',tU (BJ x++rest) (eB ends (a:Int) i tag cms fds es [] [] [] 0 [] false false (-1))=tU rest (eB (ends++[((a+(v6 x).length:Nat):Int)]) ((a+(v6 x).length:Nat):Int) i' tag cms fds (es++[x]) [] [] [] 0 [] false false (-1)):=by
 have h':=h;unfold wZ at h';simp only[aPT] at h';obtain⟨⟨⟨⟨⟨⟨⟨⟨hid,h200⟩,hidt⟩,hsrc⟩,htgt⟩,hcom⟩,hflg⟩,_⟩,hfld⟩:=h';obtain⟨r0,r4⟩:=UQ h;have hidk:J9 x.1=true:=by unfold J9;rw[hid,h200];rfl
 have hidn:x.1≠[]:=by simpa using hid
 have hl:(v6 x).length=1+((x.2.2.2.1.map sR).flatten.length+((A6 x.2.1).flatten.length+((A7 x.2.2.2.2.2.1).flatten.length+((x.2.2.2.2.1.map (rJ xT)).flatten.length+((x.2.2.2.2.2.2.1.map uE).flatten.length+(rJ (rF 1 x.1) x.2.2.1).length))))):=by
  rw[<-aFI];unfold BJ;simp only[List.flatten_append,aQP,List.flatten_nil,aPP,aPR,aPZ];omega
 have e:BJ x++rest=[10]::(x.2.2.2.1.map sR++(A6 x.2.1++(A7 x.2.2.2.2.2.1++(x.2.2.2.2.1.map (rJ xT)++(x.2.2.2.2.2.2.1.map uE++(rJ (rF 1 x.1) x.2.2.1::rest)))))):=by
  unfold BJ;simp only[aPW,List.cons_append,List.nil_append]
 have s0:=aM8 (at_:=(a:Int)) (i:=i) (tag:=tag) (cms:=cms) (fds:=fds) (es:=es) (src:=[]) (cm:=[]) (fl:=[]) (st:=0) (fd:=[]) (hs:=false) (ht:=false) (op:= -1) hne aMY;obtain⟨i1,o1,e1⟩:=aNe (tag:=tag) (cms:=cms) (fds:=fds) (es:=es) (src:=[]) (fl:=[]) (st:=0) (fd:=[]) (hs:=false) (ht:=false) (rest:=A6 x.2.1++(A7 x.2.2.2.2.2.1++(x.2.2.2.2.1.map (rJ xT)++(x.2.2.2.2.2.2.1.map uE++(rJ (rF 1 x.1) x.2.2.1::rest))))) hne hcom ((a:Int)+((([10]:List UInt8).length:Nat):Int)) (i+1) (-1);obtain⟨i2,o2,h2,e2⟩:=aNh (tag:=tag) (cms:=cms) (fds:=fds) (es:=es) (cm:=x.2.2.2.1) (fl:=[]) (st:=0) (fd:=[]) (ht:=false) (rest:=A7 x.2.2.2.2.2.1++(x.2.2.2.2.1.map (rJ xT)++(x.2.2.2.2.2.2.1.map uE++(rJ (rF 1 x.1) x.2.2.1::rest)))) hne hsrc ((a:Int)+((([10]:List UInt8).length:Nat):Int)+(((x.2.2.2.1.map sR).flatten.length:Nat):Int)) i1 o1;obtain⟨i3,o3,h3,e3⟩:=aNj (tag:=tag) (cms:=cms) (fds:=fds) (es:=es) (src:=x.2.1) (cm:=x.2.2.2.1) (fl:=[]) (fd:=[]) (hs:=h2) (rest:=x.2.2.2.2.1.map (rJ xT)++(x.2.2.2.2.2.2.1.map uE++(rJ (rF 1 x.1) x.2.2.1::rest))) hne r0 r4 ((a:Int)+((([10]:List UInt8).length:Nat):Int)+(((x.2.2.2.1.map sR).flatten.length:Nat):Int)+(((A6 x.2.1).flatten.length:Nat):Int)) i2 o2;obtain⟨i4,o4,e4⟩:=aNf (tag:=tag) (cms:=cms) (fds:=fds) (es:=es) (src:=x.2.1) (cm:=x.2.2.2.1) (st:=x.2.2.2.2.2.1) (fd:=[]) (hs:=h2) (ht:=h3) (rest:=x.2.2.2.2.2.2.1.map uE++(rJ (rF 1 x.1) x.2.2.1::rest)) hne hflg ((a:Int)+((([10]:List UInt8).length:Nat):Int)+(((x.2.2.2.1.map sR).flatten.length:Nat):Int)+(((A6 x.2.1).flatten.length:Nat):Int)+(((A7 x.2.2.2.2.2.1).flatten.length:Nat):Int)) i3 o3;obtain⟨i5,o5,e5⟩:=aNg (tag:=tag) (cms:=cms) (fds:=fds) (es:=es) (src:=x.2.1) (cm:=x.2.2.2.1) (fl:=x.2.2.2.2.1) (st:=x.2.2.2.2.2.1) (hs:=h2) (ht:=h3) (rest:=rJ (rF 1 x.1) x.2.2.1::rest) hne hfld ((a:Int)+((([10]:List UInt8).length:Nat):Int)+(((x.2.2.2.1.map sR).flatten.length:Nat):Int)+(((A6 x.2.1).flatten.length:Nat):Int)+(((A7 x.2.2.2.2.2.1).flatten.length:Nat):Int)+(((x.2.2.2.2.1.map (rJ xT)).flatten.length:Nat):Int)) i4 o4;have hll:(rJ (rF 1 x.1) x.2.2.1).length<=4000000000:=a6P (by have h1:=FD (n:=1) (.inl rfl) x.1;have h2:=w4 hidt;omega) htgt;have s6:=aM9 (at_:=(a:Int)+((([10]:List UInt8).length:Nat):Int)+(((x.2.2.2.1.map sR).flatten.length:Nat):Int)+(((A6 x.2.1).flatten.length:Nat):Int)+(((A7 x.2.2.2.2.2.1).flatten.length:Nat):Int)+(((x.2.2.2.2.1.map (rJ xT)).flatten.length:Nat):Int)+(((x.2.2.2.2.2.2.1.map uE).flatten.length:Nat):Int)) (i:=i5) (tag:=tag) (cms:=cms) (fds:=fds) (src:=x.2.1) (cm:=x.2.2.2.1) (fl:=x.2.2.2.2.1) (st:=x.2.2.2.2.2.1) (fd:=x.2.2.2.2.2.2.1) (hs:=h2) (ht:=h3) (op:=o5) hne (aM2 hidn hidt htgt hll) hidk hes hen hnew;refine⟨i5+1,?_⟩;rw[e,JL s0,e1,e2,e3,e4,e5,JL s6];have e7:(a:Int)+((([10]:List UInt8).length:Nat):Int)+(((x.2.2.2.1.map sR).flatten.length:Nat):Int)+(((A6 x.2.1).flatten.length:Nat):Int)+(((A7 x.2.2.2.2.2.1).flatten.length:Nat):Int)+(((x.2.2.2.2.1.map (rJ xT)).flatten.length:Nat):Int)+(((x.2.2.2.2.2.2.1.map uE).flatten.length:Nat):Int)+(((rJ (rF 1 x.1) x.2.2.1).length:Nat):Int)=((a+(v6 x).length:Nat):Int):=by
  rw[hl];simp only[aPR,aPZ];omega
 rw[e7]
theorem aFJ {tag:List UInt8}{cms:List (List UInt8)}{fds:List qU}: ∀(l es:List sY) (ends:List Int) (a:Nat) (i:Int),ends≠[]->(∀x∈l,wZ x=true)->(es++l).Pairwise (fun a b=>a.1≠b.1)->es.length+l.length<=1000->ends.length<=es.length+1->
  ∃i' at',tU ((l.map BJ).flatten) (eB ends (a:Int) i tag cms fds es [] [] [] 0 [] false false (-1))=tU [] (eB (ends++(MB a (l.map v6)).map fun n:Nat=>(n:Int)) at' i' tag cms fds (es++l) [] [] [] 0 [] false false (-1))
 |[],es,ends,a,i,_,_,_,_,_=>⟨i,a,by simp [MB]⟩
 |x::l,es,ends,a,i,hne,hok,hp,hl,hle=>by
  rw[aPR] at hl;have hnew:(es.any fun y=>decide (y.1=x.1))=false:=by
   rw[aQx];intro y hy;simpa using(aQ7.1 hp).2.2 y hy x aP8
  obtain⟨i1,e1⟩:=aNk (tag:=tag) (cms:=cms) (fds:=fds) (rest:=(l.map BJ).flatten) hne (hok x aP8) (by omega) (by omega) hnew a i;obtain⟨i2,a2,e2⟩:=aFJ l (es++[x]) (ends++[((a+(v6 x).length:Nat):Int)]) (a+(v6 x).length) i1 (by simp) (fun y hy=>hok y (aP1 _ hy)) (by rw[aPW,aQ1];exact hp) (by rw[aPP,aQF];omega) (by simp only[aPP,aQF];omega);refine⟨i2,a2,?_⟩;rw[aQO,aQP,e1,e2,aPW,aPW,aQ1,aQO,MB,aQO];rfl
theorem aNl:((List.range 256).all fun b=>[true,false].all fun f=>(uB 1 b f).all fun c=>decide (c≠10))=true:=by kernel_rfl
theorem aFK: ∀(s:List UInt8) (f:Bool),(10:UInt8)∉yA 1 f s
  |[],f=>by simp [yA]
  | b::u,f=>by
    have h1:=aQt.1 aNl b.toNat (aRo.2 (UInt8.toNat_lt _));have h2:=aQt.1 h1 f (by cases f<;>simp)
    unfold yA;rw[aQn,not_or];refine⟨fun hm=> ?_,aFK u false⟩;have:=aQt.1 h2 10 hm;exact absurd this (by decide)
theorem a6Q (s:List UInt8):(10:UInt8)∉rF 1 s:=by rw[PU];exact aFK s true
theorem aFL (x:List UInt8):FB (sR x):=by
  refine⟨[35,46,32]++rF 1 x,?_,rfl⟩;rw[aQn,not_or];exact⟨by decide,a6Q x⟩
theorem ME {a:List UInt8}(b:List UInt8) (ha:(10:UInt8)∉a):FB (rJ a b):=by
  refine⟨(a++[32,61,32])++rF 1 b,?_,rfl⟩;rw[aQn,not_or,aQn,not_or];exact⟨⟨ha,by decide⟩,a6Q b⟩
theorem aNm {x:List UInt8}(h:sC x=true):(10:UInt8)∉x:=by
  have hw:=aFa h;unfold UT at hw;rw[aPT] at hw;intro hm;have:=aQt.1 hw.1 10 hm;revert this;decide
theorem aFM {x:qU}(h:sC x.1=true):FB (uE x):=by
  refine ME x.2.1 ?_;rw[aQn,not_or];exact⟨by decide,aNm h⟩
theorem PY {α:Type}{f:α→List UInt8}{l:List α}(h: ∀x∈l,FB (f x)): ∀y∈l.map f,FB y:=by
  intro y hy;obtain⟨x,hx,rfl⟩:=List.mem_map.1 hy;exact h x hx
theorem aFN {u:List UInt8}(h:(10:UInt8)∉u):FB (u++[10]):=⟨u,h,rfl⟩
theorem aNn {c:C4}(hf:uT c.2.2.1=true): ∀y∈FL c,FB y:=by
  intro y hy;unfold FL at hy;obtain⟨_,h2,_⟩:=FF hf;rcases aQn.1 hy with hy|hy
  ·exact PY (fun x _=>aFL x) y hy
  · rcases aP2.1 hy with rfl|hy
    ·exact ME _ (by decide)
    · rcases aQn.1 hy with hy|hy
      ·exact PY (fun x hx=>aFM (h2 x hx).1) y hy
      · rw[aPY.1 hy]
        exact aFN (u:=[37,37]) (by decide)
theorem aNo {x:sY}(h:wZ x=true): ∀y∈BJ x,FB y:=by
  have h':=h;unfold wZ at h';simp only[aPT] at h';obtain⟨_,h2,_⟩:=FF h'.2;intro y hy;unfold BJ at hy;rcases aP2.1 hy with rfl|hy
  ·exact aFN (u:=[]) (by decide)
  · rcases aQn.1 hy with hy|hy
    ·exact PY (fun x _=>aFL x) y hy
    · rcases aQn.1 hy with hy|hy
      · unfold A6 at hy
        split at hy
        ·cases hy
        ·rw[aPY.1 hy];exact ME _ (by decide)
      · rcases aQn.1 hy with hy|hy
        · unfold A7 at hy
          split at hy
          ·cases hy
          ·rw[aPY.1 hy];exact ME _ (by decide)
        · rcases aQn.1 hy with hy|hy
          ·exact PY (fun x _=>ME x (by decide)) y hy
          · rcases aQn.1 hy with hy|hy
            ·exact PY (fun x hx=>aFM (h2 x hx).1) y hy
            ·rw[aPY.1 hy];exact ME _ (a6Q _)
theorem a6R {s:List UInt8}(h:s.length≤4000):(rF 1 s).length≤24000:=by
  have:=FD (n:=1) (.inl rfl) s;omega
theorem aFO {l:List (List UInt8)}(h:l.length≤20∧∀y∈l,y.length≤4000):(DN l).length≤480080:=by
  have:=HA (l:=l) (h:=sR) (B:=24004) fun x hx=>by
    have:=a6R (h.2 x hx);unfold sR;simp only[aPP,aPR,aPZ];omega
  unfold DN;omega
theorem MF {a b:List UInt8}(hb:b.length≤4000):(rJ a b).length≤a.length+24004:=by
  have:=a6R hb;unfold rJ;simp only[aPP,aPR,aPZ];omega
theorem aFP {l:List qU}(h:l.length≤20∧∀y∈l,y.1.length≤4000∧y.2.1.length≤4000):(FI l).length≤560120:=by
  have:=HA (l:=l) (h:=uE) (B:=28006) fun x hx=>by
    have h1:=MF (a:=[33,58]++x.1) (h.2 x hx).2;have h2:=(h.2 x hx).1;unfold uE;simp only[aPP,aPR,aPZ] at h1;omega
  unfold FI;omega
theorem aNp {l:List (List UInt8)}(h:l.length≤20∧∀y∈l,y.length≤4000):(JJ l).length≤480200:=by
  have:=HA (l:=l) (h:=rJ xT) (B:=24010) fun x hx=>by
    have h1:=MF (a:=xT) (h.2 x hx);simp only[aPR,aPZ] at h1;omega
  unfold JJ;omega
theorem aNq {x:sY}(h:wZ x=true):(v6 x).length≤1700000:=by
  have hs:=a6G h;obtain⟨r0,r4⟩:=UQ h;have a1:=a6R hs.id;have a2:=aFO hs.com;have a3:=MF (a:=PV) hs.src;have a5:=MF (a:=PW) (b:=pQ .str vV x.2.2.2.2.2.1) (by have:=a6A r0 r4;omega);have a6:=aNp hs.flg;have a7:=aFP hs.fld;have a8:=MF (a:=rF 1 x.1) hs.tgt;simp only[aPR,aPZ] at a3 a5
  have b3:(if x.2.1=[] then[] else rJ PV x.2.1).length≤24100:=by
    split
    ·simp
    ·omega
  have b5:(if x.2.2.2.2.2.1=0 then[] else rJ PW (pQ .str vV x.2.2.2.2.2.1)).length≤24100:=by
    split
    ·simp
    ·omega
  unfold v6 JK FK FJ;simp only[aPP,aPR,aPZ];omega
theorem aNr {c:C4}(h:uZ c=true):(wD c).length≤1500000:=by
  obtain⟨h1,h2,h3,_⟩:=M9 h;obtain⟨c1,c2⟩:=M8 h2;obtain⟨g1,g2,g3⟩:=FF h3;have a1:=MF (a:=BH) (w4 (a6C h1));have a2:=aFO ⟨c1,fun y hy=>w4 (c2 y hy)⟩;have a3:=aFP ⟨g1,fun y hy=>⟨w4 (g2 y hy).2.1,w4 (g2 y hy).2.2⟩⟩;simp only[aPR,aPZ] at a1;unfold wD;simp only[aPP,aPR,aPZ];omega
theorem aFQ {c:C4}(h:uZ c=true):(A5 c).length≤4000000000:=by
  obtain⟨_,_,_,h4,h5,_⟩:=M9 h;have a1:=aNr h;have a2:=HA (l:=c.2.2.2.1) (h:=v6) (B:=1700000) fun x hx=>aNq (h5 x hx);have e:(c.2.2.2.1.map v6).flatten=c.2.2.2.1.flatMap v6:=by rw[List.flatMap_def]
  unfold A5 FE;rw[e];simp only[aPP,aPZ];omega
def MG (c:C4):List (List UInt8):=FL c++(c.2.2.2.1.map BJ).flatten
theorem aNs (c:C4):(MG c).flatten=A5 c:=by
  unfold MG A5 FE;rw[List.flatten_append,aFH,List.append_nil,List.flatten_flatten,List.map_map];congr 2;exact List.map_congr_left fun x _=>aFI x
theorem aNt {c:C4}(h:uZ c=true):LN (A5 c)=MG c:=by
  obtain⟨_,_,h3,_,h5,_⟩:=M9 h
  have hW:WL (MG c++[]):=aEJ .nil fun y hy=>by
    unfold MG at hy;rcases aQn.1 hy with hy|hy
    ·exact aNn h3 y hy
    · obtain⟨z,hz,hy⟩:=List.mem_flatten.1 hy
      obtain⟨x,hx,rfl⟩:=List.mem_map.1 hz;exact aNo (h5 x hx) y hy
  rw[List.append_nil] at hW;rw[←aNs,aLS hW]
theorem aNu {c:C4}(h:uZ c=true):GT (A5 c)=some (c.1,c.2.1,c.2.2.1,c.2.2.2.1,((wD c).length::MB (wD c).length (c.2.2.2.1.map v6)).map (fun n:Nat=>(n:Int)),0,0):=by
  obtain⟨h1,h2,h3,h4,h5,h6⟩:=M9 h;have hsm:=aFQ h;obtain⟨i1,e1⟩:=aNd (rest:=(c.2.2.2.1.map BJ).flatten) h1 h2 h3;obtain⟨i2,a2,e2⟩:=aFJ (tag:=c.1) (cms:=c.2.1) (fds:=c.2.2.1) c.2.2.2.1 [] [((wD c).length:Int)] (wD c).length i1 (by simp) h5 (by simpa using h6) (by simpa using h4) (by simp)
  have hrun:pY (xL (LN (A5 c))) JF=some (.inl (([((wD c).length:Int)]++(MB (wD c).length (c.2.2.2.1.map v6)).map fun n:Nat=>(n:Int)),c.1,c.2.1,c.2.2.1,[]++c.2.2.2.1,[],[],[],[],[],0,[],false,false,-1)):=by
    rw[aEK hsm,aNt h];unfold MG;rw[e1,e2];rfl
  unfold GT;rw[a6m hsm,aPM];have hrun':pY (xL ((uG (A5 c)).map (·.2))) (([]:List Int),(0:Int),(0:Int),([]:List UInt8),([]:List (List UInt8)),([]:List pP),([]:List qS),([]:List UInt8),([]:List UInt8),([]:List UInt8),([]:List (List UInt8)),([]:List (List UInt8)),(0:Int),([]:List pP),false,false,(-1:Int))=_:=hrun;rw[hrun'];unfold s3;rw[aPM];dsimp only;rw[if_neg (by simp;omega),if_neg (by simp)];rfl
theorem aFR {c:C4}(h:uZ c=true):xC (A5 c)=some (c.1,c.2.1,c.2.2.1,c.2.2.2.1,0,0):=by
  obtain⟨v,h1,h2,_⟩:=aEE (aFQ h);unfold P6 at h2;rw[aNu h,aPM] at h2;rw[h1,←h2]
theorem aNv {s:List UInt8}(hsm:s.length≤4000000000): ∃v,xC s=some v∧(v.2.2.2.2.2=0→uZ (v.1,(v.2.1,(v.2.2.1,(v.2.2.2.1,()))))=true)∧(v.2.2.2.2.2≠0→v.1=[]∧v.2.1=[]∧v.2.2.1=[]∧v.2.2.2.1=[]):=by
  obtain⟨v,h1,h2,_⟩:=aEE hsm;obtain⟨w,g1,g2,g3⟩:=aMM hsm;unfold P6 at h2;rw[g1,aPM] at h2;cases h2;exact⟨_,h1,fun h=>(g2 h).1,fun h=>⟨(g3 h).1,(g3 h).2.1,(g3 h).2.2.1,(g3 h).2.2.2.1⟩⟩
theorem aNw {c:C4}(hc:UM c) (s:List UInt8):J1 c s=some true:=by
  unfold J1;rw[aMN,aPM,if_neg (by decide)];obtain⟨b,hb,hf⟩:=aL6 hc;rw[hb,aPM];by_cases h:((!b)||(decide ((4000:Int)<(s.length:Int))))=true
  ·rw[if_pos h]
  · rw[if_neg h]
    simp only[aQT,aQf,aPQ,not_or,Bool.not_eq_false] at h;have hw:=hf h.1;have hsm:s.length≤4000000000:=by have:=h.2;omega
    rw[aES hw.fitP,aPM];obtain⟨v,p1,p2,p3⟩:=aNv hsm
    have step1:(if uZ c=true then
      (CD c).bind fun O=>
      (xC O.1).bind fun Z=>
      if ((((!decide (O.2=(0:Int)))||(!decide (Z.2.2.2.2.2=(0:Int))))==false)=true→((AO (Z.1,(Z.2.1,(Z.2.2.1,(Z.2.2.2.1,())))) c)).isSome=true) then
       if (((!decide (O.2=(0:Int)))||(!decide (Z.2.2.2.2.2=(0:Int))))||(!((((decide (Z.1=c.1))&&(val (vK Z.2.1 c.2.1)))&&(val (xJ Z.2.2.1 c.2.2.1)))&&(val (AM Z.2.2.2.1 c.2.2.2.1)))))=true then
        some (.inr (false))
       else
        some (.inl ())
      else none
     else
      some (.inl ()):Option (Unit⊕Bool))=some (.inl ()):=by
      by_cases hok:uZ c=true
      · rw[if_pos hok,a6N hw,if_pos hok,aPM,aFR hok,aPM]
        dsimp only;obtain⟨q1,q2⟩:=aFh hok;rw[q2,if_pos (fun _=>by rw[show AO (c.1,(c.2.1,(c.2.2.1,(c.2.2.2.1,())))) c=AO c c from rfl,q1];rfl),if_neg (by simp)]
      ·rw[if_neg hok]
    rw[step1];show (xC s).bind _=some true;rw[p1,aPM];by_cases he:v.2.2.2.2.2=0
    · rw[if_neg (by simp [he])]
      have hok:=p2 he;have hw2:=aMB hok;rw[a6N hw2,if_pos hok,aPM];dsimp only;rw[aFR hok,aPM];dsimp only;rw[a6N hw2,if_pos hok,aPM];dsimp only;obtain⟨q1,q2⟩:=aFh hok;dsimp only at q1 q2;rw[aES hw2.fitP,hok,if_pos uA,q1,if_pos uA,q2];simp [val]
    · rw[if_pos (by simp [he])]
      obtain⟨e1,e2,e3,e4⟩:=p3 he;rw[e1,e2,e3,e4,aMC,aPM,H6 _ y9,M2 _ y9,UG _ y9 (fun _ h=>by cases h)];rfl
end Go.Proofs.YtbbpilohihldiaaGreatDoor
namespace Go.Proofs.YtbbpilohihldiaaGreatDoor
open Go.ChangeShapes Go.WideShapes Go.ChangeAt Go.RowKit
section
variable {H:Type}{enc:TypeId×Value->H}{P:Program}
theorem aNx (hl:laidOutB P=true) {W W':World}(hb:Below W.heap.size W W'):
  ∀{ts:List TypeId}{vs:List Value}{ds:List (DataW H)}{ps:List MemPlace},(∀t∈ts,P.readableRec t=true/\t<P.types.size)->
  DataW.TrodAll enc P W 0 (fun _=>true) true ts vs ds ps->(∀x∈ps,x.block<W.heap.size)->
  DataW.TrodAll enc P W' 0 (fun b=>decide (b<W.heap.size)) true ts vs ds ps:=by
 intro ts
 induction ts with
 |nil=>
  intro vs ds ps _ h _;obtain⟨rfl,rfl,rfl⟩:=trodAll_nil h;exact trodAll_mk0
 |cons t ts ih=>
  intro vs ds ps hr h hlt;obtain⟨v,vs',d,ds',p,q,rfl,rfl,rfl,h0,r0⟩:=trodAll_cons h;exact trodAll_cons_mk (Below.trod hl (hr t (by simp)).1 (hr t (by simp)).2 h0 hb (fun x hx=>hlt x (by simp [hx]))) (ih (fun t' ht'=>hr t' (by simp [ht'])) r0 (fun x hx=>hlt x (by simp [hx])))
theorem aNy {f:Func}{s:ChangeSpec}{W W':World}{args:Array Value}{ds gs:List (DataW H)}{before:List MemPlace}{tb:TypeId}
  (hl:laidOutB P=true) (hr: ∀t∈f.params.toList,P.readableRec t=true/\t<P.types.size)
  (hW:DataW.Whole enc P f.params.toList s.vars false W args.toList ds gs before) (hv:s.vars=[])
  (hfn:s.fn H ds={results:=[.lit (.bool true)],args:=ds}) (hrt:f.resultTypes= #[tb]) (htb:P.underlying tb=some .bool)
  (hb:Below W.heap.size W W'):s.post enc P f false true false false W args (.bool true) W':=by
 have hW':=hW;obtain⟨p,q,hA,hV,rfl,hfz,hnd⟩:=hW;rw[hv] at hV;obtain⟨rfl,rfl⟩:=trodVars_none hV;have hlt: ∀x∈p,x.block<W.heap.size:=fun x hx=>by simpa using hW'.lt x (by simp [hx])
 refine⟨ds,[],p++[],[],p,[],hW',?_,?_,?_,hb.frame _,fun h=>by cases h⟩
 ·rw[List.append_nil,hfn,hrt];exact trodAll_mk1 (shut_bool htb true)
 ·rw[List.append_nil,hfn];exact aNx hl hb hr hA hlt
 ·rw[hv,List.append_nil,hfn];rfl
end
section
variable {H:Type}{enc:TypeId×Value->H}
theorem aNz {C:Checked}{f:FuncId}{fn:Func}{s:ChangeSpec}{tb:TypeId}{DO:List (String×DataW Unit)}(own:ownKnob C.prog.godebug=none) {os:Os}(started:os.Started) (F:Stop.Interp)
  (noInit:C.prog.inits.idxOf? f=none) (hfn:C.prog.funcs[f]? =some fn)
  (hl:laidOutB C.prog=true) (hr: ∀t∈fn.params.toList,C.prog.readableRec t=true/\t<C.prog.types.size) (hv:s.vars=[])
  (hrt:fn.resultTypes= #[tb]) (htb:C.prog.underlying tb=some .bool)
  (hspec: ∀(ds:List (DataW H)) (W:World) (args:Array Value) ps,DataW.TrodAll enc C.prog W 0 (fun _=>true) true fn.params.toList args.toList ds ps->s.fn H ds={results:=[.lit (.bool true)],args:=ds})
  (witness: ∃(w:World) (tape:Tape) (i:Input),w.os=os/\(w.forCall tape i).Shaped C.prog/\i.vars=[]/\Input.okWide C.prog (w.forCall tape i) .any w.heap.size f i/\
   (OpenSpec.ofChange s).preRow enc C.prog fn [] false DO (w.forCall tape i).memory i.args/\Assume.holds {} C.prog (lone (Frame.enter C.prog f i.args .normal) [] (w.forCall tape i)))
  (contract: ∀(W:World) (base:Nat) (args:Array Value) (ds:List (DataW H)) (ps:List MemPlace),
   (∀(j:Nat) t v,fn.params[j]? =some t->args[j]? =some v->Value.okWide C.prog W .any base t v)->
   DataW.TrodAll enc C.prog W 0 (fun _=>true) true fn.params.toList args.toList ds ps->
   (∀x∈ps,x.block<W.heap.size)->(DataW.weightsEach C.prog fn.params.toList ds).all (·<=reachBytes)=true->laidMetH C.prog DO W->W.ShapedOpen C.prog->
   Calls C.prog f args W fun e W'=>e= .returned (.bool true)/\Below W.heap.size W W'):
  ReturnsInHanded {} C os f .any ((OpenSpec.ofChange s).preRow enc C.prog fn [] false DO) (s.post enc C.prog fn false true false false):=by
 refine returnsInHanded_of_row (C:=C) (s:=OpenSpec.ofChange s) (F:=F) own started noInit hfn witness ?_;intro W base args ds gs before hval hW _ _ hsz hL hsh _;have hW':=hW;obtain⟨p,q,hA,hV,rfl,hfz,hnd⟩:=hW;have hV':DataW.TrodVars enc C.prog W (fun _=>true) s.vars gs q:=hV;rw[hv] at hV';obtain⟨rfl,rfl⟩:=trodVars_none hV';have hlt: ∀x∈p,x.block<W.heap.size:=fun x hx=>by simpa using hW'.lt x (by simp [hx])
 have hvt:(OpenSpec.ofChange s).bare.plain.varTypes C.prog=[]:=by
  simp [OpenSpec.ofChange,ChangeSpec.plain,hv];rfl
 rw[hvt,List.append_nil,List.append_nil] at hsz;refine(contract W base args ds p hval hA hlt hsz hL hsh).mono fun e W' ⟨he,hb⟩=> ?_;subst he;exact⟨_,rfl,aNy hl hr hW' hv (hspec ds W args p hA) hrt htb hb⟩
end
end Go.Proofs.YtbbpilohihldiaaGreatDoor
namespace Go.Proofs.YtbbpilohihldiaaGreatDoor
open Go.Shelf Go.Lib
open Vc
theorem aNA:(Rows.laid_unicode_utf8_first:DataW Unit)=Lib.firstData:=by kernel_rfl
theorem aNB:(Rows.laid_unicode_utf8_acceptRanges:DataW Unit)=Lib.acceptData:=by kernel_rfl
def aFS:List Int:=[0,1,56,2,57,49,28,3,61,58,42,50,38,29,17,4,62,47,59,36,45,43,51,22,53,39,33,30,24,18,12,5,63,55,48,27,60,41,37,16,46,35,44,21,52,32,23,11,54,26,40,15,34,20,31,10,25,14,19,9,13,8,7,6]
theorem aNC:(Rows.laid_math_bits_deBruijn64tab:DataW Unit)=Lib.tabData .u8 aFS:=by kernel_rfl
theorem aND {P:Program}{w:World}{g:Nat}{t:TypeId}{k:IntKind}{zero:Array Value}(h:w.ShapedOpen P) (hg:g<P.globals.size)
  (h0:((begin P (fun _ _=>0) default).world.heap[g]?).bind Obj.row? =some (zero,t)) (hz:zero.size=1)
  (hb:P.buildable t=true) (hc:P.cellTypes P.depth t=some [t]) (hu:P.underlying t=some (.int k)): ∃m,w.cell? ⟨g,0,none⟩=some (.int k m):=by
 obtain⟨cs,hh,hs,hr⟩:=h.1 g zero t hg h0;obtain⟨ts,hts,_,hall⟩:=hr hb;rw[hc] at hts;cases hts;have h1:0<cs.size:=by omega
 obtain⟨u,hu',hok⟩:=hall 0 cs[0] (by simp [h1]);have:u=t:=by simpa using hu'.symm
 subst this;have hcell:w.cell? ⟨g,0,none⟩=some cs[0]:=by simp [World.cell?,hh,h1]
 rw[hcell];unfold Cell.ok at hok;rw[hu] at hok;cases hv:cs[0]<;>rw[hv] at hok<;>simp at hok
 rename_i k' m;exact⟨m,by rw[hok.1]⟩
theorem aNE {W:World}(hsh:W.ShapedOpen Tryz.prog): ∃m,W.cell? ⟨0,0,none⟩=some (.int .i64 m):=
 aND (t:=3) (zero:= #[.int .i64 0]) hsh (aQu (by kernel_rfl)) (by kernel_rfl) rfl (by kernel_rfl) (by kernel_rfl) Tryz.underlying3
def aNF:Ren:=⟨fun x=>x,fun x=>if x=5 then 5 else if x=119 then 254 else if x=138 then 256 else 257,fun x=>if x=3 then 1 else 2⟩
theorem aNG {w:World}{a:Addr}{v:Value}(h:w.cell? a=some v):a.block<w.heap.size:=by
 unfold World.cell? at h;split at h
 ·rename_i hb;exact(aP9.1 hb).1
 ·cases h
theorem aNH {W:World}(hL:laidMet Tryz.prog Rows.treePrintRow.laid W) (hsh:W.ShapedOpen Tryz.prog):HC W:=by
 obtain⟨m,hm⟩:=aNE hsh;have h0:=laidMet.reads hL (.tail _ (.head _));have h1:=laidMet.reads hL (.tail _ (.tail _ (.tail _ (.head _))));have h2:=laidMet.reads hL (.tail _ (.tail _ (.tail _ (.tail _ (.head _)))));rw[aNC] at h0;rw[aNA] at h2;rw[aNB] at h1;have hU:Lib.Utf8Tabs 1 2 W:=utf8Tabs_of_readsT (ρ:=aNF) ⟨by kernel_rfl,by kernel_rfl,by kernel_rfl,by kernel_rfl⟩ ⟨by kernel_rfl,by kernel_rfl,by kernel_rfl,by kernel_rfl,by kernel_rfl,by kernel_rfl,by kernel_rfl⟩ h2 h1;have hT:W.cell? ⟨5,15,none⟩=some (.int .u8 4):=by
  obtain⟨g,t,cs,fuel,p,hg,ht,hv,hd⟩:=h0;have hg0:Tryz.prog.globalNamed "math/bits.deBruijn64tab" =some 5:=by kernel_rfl
  have ht0:(Tryz.prog.globals[5]?).map (·.type)=some 289:=by kernel_rfl
  obtain rfl:=aPS (hg0.symm.trans hg);obtain rfl:=aPS (ht0.symm.trans ht);have hc:=cells_of_tab Tryz.underlying289 Tryz.underlying5 (by kernel_rfl) (by kernel_rfl) hd;rw[World.var?_cell hg hv 15,<-aQV,hc];rfl
 refine⟨?_,hU,⟨m,hm⟩,fun x hx=> ?_⟩
 ·have b0:5<W.heap.size:=aNG hT;show 6<=W.heap.size;omega
 ·unfold a6V at hx;obtain rfl:=aPY.1 hx;exact⟨by decide,hT⟩
noncomputable def V0 (os:Os):World:=
 let w0:=World.holding Tryz.prog os ⟨#[],#[],[]⟩
 let sF (h:Array Obj) (g:Nat) (cs:Array Value):Array Obj:=h.modify g fun
  | .cells _ t frozen=> .cells cs t frozen
  |o=>o
 let h1:=sF w0.heap 1 (Lib.firstTab.map fun z=>Value.int .u8 z).toArray
 let h2:=sF h1 2 ((List.range 16).flatMap fun i=>[Value.int .u8 (Lib.accLo i),Value.int .u8 (Lib.accHi i)]).toArray
 let h3:=sF h2 5 (aFS.map fun z=>Value.int .u8 z).toArray
 let h4:=sF h3 4 (([0,1,28,2,29,14,24,3,30,22,20,15,25,17,4,8,31,27,13,23,21,19,16,7,26,12,18,6,11,5,10,9]:List Int).map fun z=>Value.int .u8 z).toArray
 let h5:=sF h4 3 ((List.range 20).map fun i=>Value.int .u64 (10^i)).toArray
 {w0 with heap:=h5}
theorem aNI (os:Os) (args:Array Value):laidMet Tryz.prog Rows.treePrintRow.laid ((V0 os).forCall (fun _ _=>0) ⟨#[],args,[]⟩).memory:=
 (LaidIn.of_run [4,5,3,2,1] 8 (by kernel_rfl) (by kernel_rfl) (by kernel_rfl) (by kernel_rfl):LaidIn Tryz.prog _ Rows.treePrintRow.laid _).met
end Go.Proofs.YtbbpilohihldiaaGreatDoor
namespace Go.Proofs.YtbbpilohihldiaaGreatDoor
open Vc Go.RowKit
inductive a6S where
 |ty (t:TypeId) |fs (o:Nat) (l:List Field)
inductive x4 (P:Program):a6S->Ty->Prop
 |bool {t}:P.underlying t=some .bool->x4 P (.ty t) .bool
 |int {t k}:P.underlying t=some (.int k)->x4 P (.ty t) (.int k)
 |str {t}:P.underlying t=some .string->x4 P (.ty t) .str
 |list {t e u}:P.underlying t=some (.slice e)->P.cellsOf e=u.cells->0<u.cells->0<P.bytesOf e->x4 P (.ty e) u->x4 P (.ty t) (.list u)
 |struct {t fs ty}:ty.isRow=true->P.underlying t=some (.struct fs)->P.cellsOf t=ty.cells->x4 P (.fs 0 fs.toList) ty->x4 P (.ty t) ty
 |nil {o}:x4 P (.fs o []) .unit
 |cons {o}{f:Field}{r a b}:f.offset=o->P.cellsOf f.type=a.cells->x4 P (.ty f.type) a->x4 P (.fs (o+a.cells) r) b->x4 P (.fs o (f::r)) (.pair a b)
def Bd:(t:Ty)->t.den->Prop
 | .str,s=>List.length s<=140737488351232
 | .int k,n=>(Lit.int k n).wf=true
 | .list u,l=>List.length l<=140737488351232/\∀x:u.den,x∈(l:List u.den)->Bd u x
 | .pair a b,x=>Bd a x.1/\Bd b x.2
 |_,_=>True
def FM (w:World):Gh:=⟨fun b _=>b<w.heap.size,fun _=>none,fun _ _=>none⟩
theorem aFT {α:Type}{R:α->List Value->Prop}{w:World}{S:Nat->Nat->Prop}{c b:Nat}: ∀{l:List α}{o:Nat},(∀i x,l[i]? =some x->∃cs,cs.length=c/\w.rangeAt b (o+i*c) cs/\(∀j,j<c->S b (o+i*c+j))/\R x cs)->x6 R w S c b o l
 |[],_,_=>trivial
 |x::l,o,h=>by
  refine⟨?_,aFT fun i y hy=> ?_⟩
  ·obtain⟨cs,h1,h2,h3,h4⟩:=h 0 x rfl;exact⟨cs,h1,by simpa using h2,by simpa using h3,h4⟩
  ·obtain⟨cs,h1,h2,h3,h4⟩:=h (i+1) y (by simpa using hy);have e:o+(i+1)*c=o+c+i*c:=by rw[aQU];omega
   exact⟨cs,h1,by rw[<-e];exact h2,by rw[<-e];exact h3,h4⟩
section
variable {H:Type}{enc:TypeId×Value->H}{P:Program}{W:World}
theorem aFU {e:TypeId}: ∀{l:List (DataW H)}{i:Nat}{d:DataW H},l[i]? =some d->∀n∈d.weights P e,n∈DataW.weightsAll P e l
 |d0::l,0,d,h,n,hn=>by
  simp only[aQi,aPN] at h;subst h;simp only[DataW.weightsAll,aQn];exact .inl hn
 |d0::l,i+1,d,h,n,hn=>by
  simp only[aQw] at h;simp only[DataW.weightsAll,aQn];exact .inr (aFU h n hn)
 |[],_,_,h,_,_=>by simp at h
def aNJ (enc:TypeId×Value->H) (P:Program) (W:World):a6S->Ty->Prop
 | .ty t,u=> ∀(fuel:Nat) (cs:List Value) (y:DataW H×List MemPlace),DataW.trod enc P W 0 (fun _=>true) true fuel t cs=some y->(∀n∈y.1.weights P t,n<=reachBytes)->∃x:u.den,Rd (FM W) W u x cs/\Bd u x
 | .fs o l,u=> ∀(fuel:Nat) (cs:List Value) (xs:List (DataW H×List MemPlace)),cs.length=o+u.cells->xs.length=l.length->(∀(i:Nat) (f:Field),l[i]? =some f->DataW.trod enc P W 0 (fun _=>true) true fuel f.type ((cs.drop f.offset).take (P.cellsOf f.type))=xs[i]?)->(∀n∈DataW.weightsEach P (l.map (·.type)) (xs.map (·.1)),n<=reachBytes)->∃x:u.den,Rd (FM W) W u x (cs.drop o)/\Bd u x
theorem aNK {e:TypeId}{u:Ty}{a:Addr}{len cap:Nat}(hc:P.cellsOf e=u.cells) (hpos:0<u.cells) (hcap:len<=cap)
  (each: ∀i,i<len->∃(cs:List Value) (x:u.den),W.cells? 0 (a.add (i*u.cells)) u.cells=some cs/\Rd (FM W) W u x cs/\Bd u x):
  ∃l:List u.den,l.length=len/\Rd (FM W) W (.list u) l [.slice (some a) len cap]/\∀x∈l,Bd u x:=by
 have build: ∀k,k<=len->∃l:List u.den,l.length=k/\∀i x,l[i]? =some x->∃cs:List Value,W.cells? 0 (a.add (i*u.cells)) u.cells=some cs/\Rd (FM W) W u x cs/\Bd u x:=by
  intro k
  induction k with
  |zero=>intro _;exact⟨[],rfl,fun i x h=>by simp at h⟩
  |succ k ih=>
   intro hk;obtain⟨l,h1,h2⟩:=ih (by omega);obtain⟨cs,x,h3,h4⟩:=each k (by omega);refine⟨l++[x],by simp [h1],fun i y hy=> ?_⟩;rw[List.getElem?_append] at hy;split at hy
   ·exact h2 i y hy
   ·rename_i hi;obtain⟨j,hj⟩: ∃j,i=l.length+j:=⟨i-l.length,by omega⟩;subst hj;rw[aQE] at hy;cases j with
    |zero=>
     simp only[aQi,aPN] at hy;subst hy;exact⟨cs,by rw[aRg,h1];exact h3,h4⟩
    |succ j=>simp at hy
 obtain⟨l,hll,hle⟩:=build len (Nat.le_refl _);refine⟨l,hll,?_,fun x hx=> ?_⟩
 ·subst hll;by_cases hl0:l=[]
  ·subst hl0;exact⟨some a,cap,rfl,hcap,.inl rfl⟩
  ·obtain⟨b,off,spot⟩:=a;have hlp:0<l.length:=aRw.2 hl0;have hspot:spot=none:=by
    obtain⟨cs,x,h3,_⟩:=each 0 hlp;have h4:=(World.cells?_some h3).2.2 0 hpos;have hlen0:=(World.cells?_some h3).2.1;rw[aPU (by omega)] at h4;simpa[Addr.add] using World.cell?_spot h4
   subst hspot;refine⟨_,cap,rfl,hcap,.inr ⟨b,off,rfl,aFT fun i x hx=> ?_⟩⟩;obtain⟨cs,h3,h4,_⟩:=hle i x hx;obtain⟨_,h5,h6⟩:=World.cells?_some h3;have hcell: ∀j v,cs[j]? =some v->W.cell? ⟨b,off+i*u.cells+j,none⟩=some v:=by
    intro j v hv;have hj:j<u.cells:=by have:=(aP0.1 hv).1;omega
    have:=h6 j hj;rw[hv] at this;rw[aRG,aRG] at this;exact this
   refine⟨cs,h5,hcell,fun j hj=> ?_,h4⟩;exact Vc.RG (hcell 0 _ (aPU (by omega)))
 ·obtain⟨i,hi,he⟩:=aRa hx;obtain⟨cs,h3,h4,h5⟩:=hle i x (by rw[aPU hi,he]);exact h5
theorem aNL {ix:a6S}{u:Ty}(h:x4 P ix u):aNJ enc P W ix u:=by
 induction h with
 |bool ht=>
  intro fuel cs y hy _;obtain⟨b,rfl,_⟩:=DataW.trod_bool ht hy;exact⟨b,rfl,trivial⟩
 |int ht=>
  intro fuel cs y hy _;obtain⟨n,rfl,_,hw⟩:=DataW.trod_int ht hy;exact⟨n,rfl,hw⟩
 |str ht=>
  intro fuel cs y hy hw;obtain⟨s,rfl,rfl,_⟩:=DataW.trod_string ht hy;refine⟨s.data.toList,by show [Value.string s]=[Value.string ⟨s.data.toList.toArray⟩];rw[aRm],?_⟩;exact hw _ (by simp [DataW.weights])
 | @list t e u ht hc hpos hb _ ih=>
  intro fuel cs y hy hw;rcases DataW.trod_slice ht hy with⟨rfl,_⟩ |⟨a,len,cap,elems,rest,n,_,rfl,rfl,_,hl,_,hlen,hall,_,_⟩
  ·exact⟨[],⟨none,0,rfl,Nat.le_refl _,.inl rfl⟩,by simp,fun x hx=>by cases hx⟩
  ·have hws:DataW.weights P t (.slice (elems.map (·.1)) (rest.map (·.1)))=((elems.map (·.1)).length+(rest.map (·.1)).length)*P.bytesOf e::(DataW.weightsAll P e (elems.map (·.1))++DataW.weightsAll P e (rest.map (·.1))):=by
    simp [DataW.weights,ht]
   rw[hws] at hw;have hn:=hw _ aP8;obtain⟨l,h1,h2,h3⟩:=aNK (W:=W) (a:=a) (cap:=cap) hc hpos hl fun i hi=>by
    have h1:=hall i hi;rw[hc,aPU (by omega),Option.bind_eq_some_iff] at h1;obtain⟨cs,h2,h3⟩:=h1;obtain⟨x,hx⟩:=ih n cs _ h3 fun m hm=>hw m (by
     refine aP1 _ (aQn.2 (.inl (aFU (i:=i) ?_ m hm)));rw[List.getElem?_map,aPU (by omega)];rfl)
    exact⟨cs,x,h2,hx⟩
   refine⟨l,h2,?_,h3⟩;have:elems.length<=(elems.length+rest.length)*P.bytesOf e:=by
    calc elems.length<=(elems.length+rest.length)*1:=by omega
     _<=_:=Nat.mul_le_mul_left _ hb
   simp only[aRt] at hn;have hr:reachBytes=140737488351232:=rfl;show l.length<=_;omega
 |struct hrow ht hcl _ ih=>
  intro fuel cs y hy hw;obtain⟨xs,n,rfl,rfl,hl,hlen,hf⟩:=DataW.trod_struct ht hy;have:=ih n cs xs (by rw[hl,hcl];omega) (by rw[hlen];simp) (fun i f hi=>hf i f (by simpa using hi)) fun m hm=>hw m (by simpa[DataW.weights,ht] using hm);rwa [aQL] at this
 |nil=>
  intro fuel cs xs hl _ _ _;refine⟨(),?_,trivial⟩;show cs.drop _=[];exact List.drop_of_length_le (by simp [Ty.cells] at hl;omega)
 | @cons o f r a b ho hc _ _ iha ihb=>
  intro fuel cs xs hl hx hf hw;cases xs with
  |nil=>simp at hx
  |cons x0 xs=>
   have h0:=hf 0 f rfl;rw[hc,ho] at h0;obtain⟨xa,ra,ba⟩:=iha fuel _ x0 h0 fun m hm=>hw m (by simp only[aQO,DataW.weightsEach,aQn];exact .inl hm);obtain⟨xb,rb,bb⟩:=ihb fuel cs xs (by simp only[Ty.cells] at hl;omega) (by simpa using hx) (fun i f' hi=>by have:=hf (i+1) f' (by simpa using hi);simpa using this) fun m hm=>hw m (by simp only[aQO,DataW.weightsEach,aQn];exact .inr hm);refine⟨(xa,xb),⟨_,_,(aQ3 a.cells (cs.drop o)).symm,ra,?_⟩,ba,bb⟩;rw[aQ5];exact rb
theorem aFV {t:TypeId}{u:Ty}{base:Nat}{v:Value}{d:DataW H}{ps:List MemPlace}(h:x4 P (.ty t) u) (hok:Value.okWide P W .any base t v) (hT:DataW.Trod enc P W 0 (fun _=>true) true t v d ps) (hw: ∀n∈d.weights P t,n<=reachBytes): ∃x:u.den,s9 (FM W) W u x v/\Bd u x:=by
 obtain⟨fuel,hf⟩:=hT;obtain⟨x,hx,hb⟩:=aNL (enc:=enc) (W:=W) h fuel _ _ hf hw;refine⟨x,?_,hb⟩;cases h with
 |bool ht=>obtain⟨b,rfl⟩:=Go.WideShapes.okWide_bool ht hok;exact .inr ⟨rfl,hx⟩
 |int ht=>obtain⟨b,rfl⟩:=Go.WideShapes.okWide_int ht hok;exact .inr ⟨rfl,hx⟩
 |str ht=>obtain⟨b,rfl⟩:=Go.WideShapes.okWide_string ht hok;exact .inr ⟨rfl,hx⟩
 |list ht=>obtain⟨a,l,c,rfl⟩:=Go.WideShapes.okWide_slice ht hok;exact .inr ⟨rfl,hx⟩
 |struct hrow ht=>obtain⟨cs,rfl,_⟩:=Go.WideShapes.okWide_struct ht hok;exact .inl ⟨hrow,cs.toList,by rw[aRm],hx⟩
end
end Go.Proofs.YtbbpilohihldiaaGreatDoor
namespace Go.Proofs.YtbbpilohihldiaaGreatDoor
open Vc
open Go.ChangeShapes Go.WideShapes Go.ChangeAt Go.RowKit
theorem HB:x4 Tryz.prog (.ty 9) .str:= .str Tryz.underlying9
theorem a6T:x4 Tryz.prog (.ty 23) (.list .str):= .list Tryz.underlying23 (by kernel_rfl) (by decide) (aQu (by kernel_rfl)) HB
theorem aNM:x4 Tryz.prog (.ty 149) (.pair .str (.pair .str .unit)):=by
 refine .struct rfl Tryz.underlying149 (by kernel_rfl) ?_;exact .cons rfl (by kernel_rfl) HB (.cons rfl (by kernel_rfl) HB .nil)
theorem aFW:x4 Tryz.prog (.ty 24) (.list (.pair .str (.pair .str .unit))):= .list Tryz.underlying24 (by kernel_rfl) (by decide) (aQu (by kernel_rfl)) aNM
theorem aNN:x4 Tryz.prog (.ty 55) rI:=by
 refine .struct rfl Tryz.underlying55 (by kernel_rfl) ?_;exact .cons rfl (by kernel_rfl) HB (.cons rfl (by kernel_rfl) HB (.cons rfl (by kernel_rfl) HB (.cons rfl (by kernel_rfl) a6T (.cons rfl (by kernel_rfl) a6T (.cons rfl (by kernel_rfl) (.int Tryz.underlying3) (.cons rfl (by kernel_rfl) aFW .nil))))))
theorem aNO:x4 Tryz.prog (.ty 25) (.list rI):= .list Tryz.underlying25 (by kernel_rfl) (by decide) (aQu (by kernel_rfl)) aNN
theorem aNP:x4 Tryz.prog (.ty 27) wA:=by
 refine .struct rfl Tryz.underlying27 (by kernel_rfl) ?_;exact .cons rfl (by kernel_rfl) HB (.cons rfl (by kernel_rfl) a6T (.cons rfl (by kernel_rfl) aFW (.cons rfl (by kernel_rfl) aNO .nil)))
theorem aNQ {x:sY}(h:Bd rI x):a6w x:=by
 obtain⟨h1,h2,h3,⟨h4,k4⟩,⟨h5,k5⟩,_,⟨h7,k7⟩,_⟩:=h;exact⟨h1,h2,h3,⟨h4,k4⟩,⟨h5,k5⟩,h7,fun y hy=>⟨(k7 y hy).1,(k7 y hy).2.1⟩⟩
theorem aNR {c:C4}(h:Bd wA c):UM c:=by
 obtain⟨h1,⟨h2,k2⟩,⟨h3,k3⟩,⟨h4,k4⟩,_⟩:=h;exact⟨h1,⟨h2,k2⟩,⟨h3,fun y hy=>⟨(k3 y hy).1,(k3 y hy).2.1⟩⟩,fun x hx=>aNQ (k4 x hx)⟩
theorem aNS {W:World}(hT:HC W) (v:Value) (c:C4) (u:Value) (s:List UInt8) (hv:s9 (FM W) W wA c v) (hu:s9 (FM W) W .str s u) (hB:Bd wA c):
  Calls Tryz.prog 12 #[v,u] W fun e W'=>e= .returned (.bool true)/\Below W.heap.size W W':=by
 have hC:a5K (P8 c s) TY=some (LQ c s):=aKg _ _;have ht:=aNw (aNR hB) s;refine(aKi.1.2 (FM W) W (P8 c s) [v,u] [] _ ⟨(fun i b h=>by cases h),(fun i j bi bj b o _ h=>by cases h),fun b o h=>h,hT,(fun i blk b o h=>by cases h)⟩ ⟨v,[u],rfl,⟨hv,trivial⟩,u,[],rfl,⟨hu,trivial⟩,rfl⟩ hC ?_).mono fun e W' ⟨v,g',he,r⟩=> ?_
 ·intro p hp;have:p=((J1 c s).isSome=true):=by simpa[LQ] using hp
  rw[this,ht];rfl
 ·have hv:v= .bool true:=by
   have h1:=r.ret;unfold LQ at h1;rw[ht] at h1;exact w9 h1.1
  subst hv;exact⟨he,⟨r.fr.os,r.fr.tape,r.fr.output,r.fr.size,fun k hk=>r.fr.blk k hk (fun o ⟨i,blk,hi,_⟩=>by cases hi)⟩⟩
end Go.Proofs.YtbbpilohihldiaaGreatDoor
namespace Go.Proofs.YtbbpilohihldiaaGreatDoor
open Go.ChangeShapes Go.WideShapes Go.ChangeAt Go.RowKit Go.Lib
theorem aNT:(Rows.propsInverseRow.inPlace==Tryz.prog.inPlace 12)=true:=by kernel_rfl
theorem aNU:(Rows.propsInverseRow.unfollowed==Tryz.prog.unfollowed 12)=true:=by kernel_rfl
theorem aNV:(Rows.propsInverseRow.recurses==Tryz.prog.recurses 12)=true:=by kernel_rfl
theorem aNW:(Rows.propsInverseRow.named==Tryz.prog.varsNamed 12)=true:=by kernel_rfl
theorem aNX:joinedFacts Tryz.prog 12 Tryz.f12 Rows.propsInverseSpec Rows.propsInverseRow=true:=by
 unfold joinedFacts;rw[aNT,aNU,aNV,aNW]
 kernel_rfl
namespace propsInverseLaw
theorem own:ownKnob Tryz.prog.godebug=none:=by kernel_rfl
theorem DO:laidOutB Tryz.prog=true:=by kernel_rfl
theorem aNY:Tryz.prog.readableRec 27=true:=by kernel_rfl
theorem ltC:27<Tryz.prog.types.size:=aQu (by kernel_rfl)
theorem aN0:Tryz.prog.readableRec 9=true:=by kernel_rfl
theorem ltS:9<Tryz.prog.types.size:=aQu (by kernel_rfl)
def PZ:Value:= .agg #[.string ⟨#[]⟩,.slice none 0 0,.slice none 0 0,.slice none 0 0]
theorem aN2 (os:Os) {H:Type}(enc:TypeId×Value->H):
  (OpenSpec.ofChange Rows.propsInverseSpec).preRow enc Tryz.prog Tryz.f12 [] false Rows.propsInverseRow.laid ((V0 os).forCall (fun _ _=>0) ⟨#[],#[PZ,.string ⟨#[]⟩],[]⟩).memory #[PZ,.string ⟨#[]⟩]:=by
 have hw:(DataW.whole enc Tryz.prog ((V0 os).forCall (fun _ _=>0) ⟨#[],#[PZ,.string ⟨#[]⟩],[]⟩).memory Tryz.f12.params.toList (OpenSpec.ofChange Rows.propsInverseSpec).vars false #[PZ,.string ⟨#[]⟩].toList 8).map (fun x=>(x.1,x.2.1))=
   some ([.agg [.lit (.string []),.nil,.nil,.nil],.lit (.string [])],[]):=by kernel_rfl
 obtain⟨⟨x1,x2,x3⟩,hx,hx1⟩:=aP3.1 hw;simp only[aQh] at hx1;obtain⟨rfl,rfl⟩:=hx1;exact OpenSpec.preRow_of_cond 8 hx (by kernel_rfl) (fun k hk=>by cases hk) (by kernel_rfl) (aNI os _)
theorem lifted (os:Os) (started:os.Started) (H:Type) (enc:TypeId×Value->H) (F:Stop.Interp):
  ReturnsInHanded {} Tryz.checked os 12 .any ((OpenSpec.ofChange Rows.propsInverseSpec).preRow enc Tryz.prog Tryz.f12 [] false Rows.propsInverseRow.laid) (Rows.propsInverseSpec.post enc Tryz.prog Tryz.f12 false true false false):=by
 refine aNz (C:=Tryz.checked) (tb:=4) own started F (by kernel_rfl) Tryz.func12 DO ?_ rfl rfl Tryz.underlying4 ?_
  (witness_row_atRef (enc:=enc) (C:=Tryz.checked) false (V0 os) #[PZ,.string ⟨#[]⟩] rfl (by kernel_rfl) (by kernel_rfl) (by kernel_rfl) (aN2 os enc)) ?_
 ·intro t ht;rw[Tryz.params12] at ht;simp only[aP2,aRN,or_false] at ht;rcases ht with rfl|rfl
  ·exact⟨aNY,ltC⟩
  ·exact⟨aN0,ltS⟩
 ·intro ds W args ps h;have h':DataW.TrodAll enc Tryz.prog W 0 (fun _=>true) true Tryz.f12.params.toList args.toList ds ps:=h;rw[Tryz.params12] at h';obtain⟨v0,v1,d0,d1,p0,p1,rfl,rfl,rfl,h0,h1⟩:=trodAll_two h';rfl
 ·intro W base args ds ps hval0 hA0 hlt hsz0 hL hsh;have hval: ∀(j:Nat) t v,Tryz.f12.params[j]? =some t->args[j]? =some v->Value.okWide Tryz.prog W .any base t v:=hval0;have hA:DataW.TrodAll enc Tryz.prog W 0 (fun _=>true) true Tryz.f12.params.toList args.toList ds ps:=hA0;have hsz:(DataW.weightsEach Tryz.prog Tryz.f12.params.toList ds).all (·<=reachBytes)=true:=hsz0;rw[Tryz.params12] at hA hval hsz;obtain⟨v0,v1,d0,d1,p0,p1,rfl,rfl,rfl,h0,h1⟩:=trodAll_two hA;obtain⟨c,hv,hB⟩:=aFV aNP (hval 0 27 v0 rfl rfl) h0 (fun n hn=>by
   have:=aQt.1 hsz n (DataW.weights_mem_each (j:=0) rfl rfl n hn);simpa using this)
  obtain⟨s,hu,_⟩:=aFV HB (hval 1 9 v1 rfl rfl) h1 (fun n hn=>by
   have:=aQt.1 hsz n (DataW.weights_mem_each (j:=1) rfl rfl n hn);simpa using this)
  exact aNS (aNH hL hsh) v0 c v1 s hv hu hB
end propsInverseLaw
theorem aFX:Rows.PropsInverseSaid:=
 OpenClaim.holds_of_wide 12 Tryz.f12 rfl rfl rfl rfl rfl rfl rfl ⟨rfl,rfl,rfl,rfl,rfl⟩ rfl rfl rfl rfl rfl (by kernel_rfl) Tryz.func12 aNX
  (aQu (by kernel_rfl)) (by unfold Func.isWrapper;first|(rw[if_pos (by decide+kernel)];kernel_rfl) |(rw[if_neg (by decide+kernel)];exact⟨rfl,rfl⟩))
  (fun os started H enc _=>by rw[OpenClaim.pre_eq_preRow];exact propsInverseLaw.lifted os started H enc (fun _ _ _=>0))
#print axioms aFX
end Go.Proofs.YtbbpilohihldiaaGreatDoor
namespace Go.Proofs.YtbbpilohihldiaaGreatDoor
open Go
theorem aN3:Rows.propsInverseRow.wfByText (OpenSpec.ofChange Rows.propsInverseSpec)=true:=by kernel_rfl
theorem aN4:Tryz.prog.mainIs=some (true, "a32bce6e8aa7af12dc4e9cc10fcfd390a8b62eedc0063c9f8df073b3dc5897a3".toList):=by kernel_rfl
theorem aN5:false=Tryz.prog.looks []:=by kernel_rfl
theorem aN6:false=Rows.propsInverseRow.goesBy Tryz.prog:=by kernel_rfl
theorem aN7:Tryz.prog.funcNamed "calque/calquelaw38.PropsInverse" =some 12:=by kernel_rfl
theorem aN8:([27,9].all fun u=> !Tryz.prog.wantsStandIn u)=true:=by kernel_rfl
theorem propsInverseCard_holds:Rows.PropsInverseCardSaid:=
 Claim7.holds_tied_plain_at .later [] [.data,.data,.data,.data,.pinned] true (true, "a32bce6e8aa7af12dc4e9cc10fcfd390a8b62eedc0063c9f8df073b3dc5897a3") false
  aFX (fun _ h=>by cases h) aN3 (fun _ h=>by cases h) propsInverse_row_tie rfl ⟨rfl,rfl⟩ aN4 rfl
  (fun f fn hf hfn=>by
   obtain rfl:f=12:=aPS (aN7.symm.trans hf) |>.symm
   obtain rfl:fn=Tryz.f12:=(aPS (Tryz.func12.symm.trans hfn)).symm;exact⟨aN5,fun j t ht=>by
    rw[Tryz.params12] at ht;have hm:t∈[27,9]:=by simpa using Array.mem_of_getElem? ht
    exact(show Tryz.prog.wantsStandIn t=false by simpa using aQt.1 aN8 t hm)⟩)
  aN6
#print axioms propsInverseCard_holds
end Go.Proofs.YtbbpilohihldiaaGreatDoor
