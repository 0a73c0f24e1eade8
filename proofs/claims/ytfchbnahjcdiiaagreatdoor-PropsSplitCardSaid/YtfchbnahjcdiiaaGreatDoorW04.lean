/- PropsSplit returns true for every body (Split gives the pieces that the document gives): the tied card of the statement, over the row's statement. No condition. -/
/- Packed by a program of mine (wip/tools/pack.py): the same texts with short names and few blanks. -/
import Derived.Deep.CondSized
import Derived.Deep.DeepHandedRow
import Derived.Deep.DeepWitnessRowRef
import Derived.KernelRfl
import Derived.Lib.Index
import Derived.Lib.IndexAny
import Derived.Lib.LaidIn
import Derived.Lib.LaidU8T
import Derived.OpenShut
import Derived.ProofKit
import Derived.SevenTiedAt
import Derived.SizedLaws
import Derived.Test.YtfchbnahjcdiiaaGreatDoorCards
import Derived.Test.YtfchbnahjcdiiaaGreatDoorRows
import Derived.Test.YtfchbnahjcdiiaaGreatDoorTie
import Derived.WalkKit
import Derived.Test.YtfchbnahjcdiiaaGreatDoorW03
set_option linter.unusedVariables false
set_option linter.unusedSimpArgs false
set_option linter.unusedSectionVars false
namespace Go.Proofs.YtfchbnahjcdiiaaGreatDoor
open Vc
set_option maxRecDepth 100000
theorem aGZ (b:UInt8) (l:List UInt8) (hl:fit l):CY (b.toNat:Int) l=some (l.contains b):=by
 unfold fit at hl
 have h:=AH (f:=LR (b.toNat:Int) l) (l:=l) (fun x=>decide (x=b)) (fun _=>true) (fun i h=>by
  unfold LR
  rw[if_pos (sH h),if_pos (qD h),uI h,if_pos (qW (by omega))]
  simp only[AW,decide_eq_true_eq]) (by
  unfold LR
  rw[if_neg (wH _)])
 unfold CY
 rw[h,BN,QV]
 congr 1
 rw[Bool.eq_iff_iff]
 simp
def GU:List UInt8:=[92,34,61,58,35,33,123,125,32]
def BP (l:List UInt8) (k:Nat) (ok:Int→Bool) (f:Int→List UInt8):List UInt8×Nat:=
 match vY 16 0 l with
 |some n=>if ok n=true then(f n,k) else([],0)
 |none=>([],0)
def BQ (l:List UInt8):List UInt8×Nat:=
 match l with
 |_::c::t=>
  if c=110 then([10],2) else if c=114 then([13],2) else if c=116 then([9],2)
  else if GU.contains c=true then([c],2)
  else if c=120∧2≤t.length then BP (t.take 2) 4 (fun n=>decide (n≤127)) (fun n=>rC [n])
  else if c=117∧4≤t.length then BP (t.take 4) 6 uK Lib.encodeRune
  else([],0)
 |_=>([],0)
theorem sU {a:UInt8}{n:Int}(b:UInt8) (hb:n=(b.toNat:Int)):decide ((a.toNat:Int)=n)=decide (a=b):=by
 rw[hb]
 simp only[AW]
theorem aBp (a c:UInt8) (t:List UInt8):oV (a::c::t) 2 4=t.take 2:=rfl
theorem aBq (a c:UInt8) (t:List UInt8):oV (a::c::t) 2 6=t.take 4:=rfl
theorem aBr (a c:UInt8) (t:List UInt8):oV (a::c::t) 1 2=[c]:=rfl
theorem aG0 (a:UInt8) (t:List UInt8):DA (a::t)=some ((BQ (a::t)).1,((BQ (a::t)).2:Int)):=by
 cases t with
 |nil=>unfold DA;rw[if_pos (by simp)];rfl
 |cons c t=>
  have hy:p9 (a::c::t) (1:Int)=(c.toNat:Int):=uI (i:=1) (by simp)
  unfold DA
  rw[if_neg (by simp;omega),if_pos (⟨by decide,by simp;omega⟩),hy,sU (n:=110) 110 rfl,sU (n:=114) 114 rfl,sU (n:=116) 116 rfl,sU (n:=120) 120 rfl,sU (n:=117) 117 rfl,aGZ c _ (by unfold fit;decide),aBp,aBq,aBr]
  show _=some ((if c=110 then(([10],2):List UInt8×Nat) else _).1,((if c=110 then(([10],2):List UInt8×Nat) else _).2:Int))
  by_cases h1:c=110
  ·rw[if_pos (by simpa using h1),if_pos h1];rfl
  rw[if_neg (by simpa using h1),if_neg h1]
  by_cases h2:c=114
  ·rw[if_pos (by simpa using h2),if_pos h2];rfl
  rw[if_neg (by simpa using h2),if_neg h2]
  by_cases h3:c=116
  ·rw[if_pos (by simpa using h3),if_pos h3];rfl
  rw[if_neg (by simpa using h3),if_neg h3,Option.bind_some]
  show (if GU.contains c=true then _ else _)=_
  by_cases h4:GU.contains c=true
  ·rw[if_pos h4,if_pos h4,if_pos ⟨by decide,by decide,by simp;omega⟩];rfl
  rw[if_neg h4,if_neg h4]
  have hlen:((a::c::t).length:Int)=(t.length:Int)+2:=by simp;omega
  rw[hlen]
  by_cases h5:c=120∧2≤t.length
  ·rw[if_pos (by simp [h5.1];omega),if_pos h5,if_pos ⟨by decide,by decide,by omega⟩,aBm _ 16 (by decide) (by decide) (by rw[List.length_take];omega),if_neg (by intro h;have:=congrArg List.length h;rw[List.length_take,List.length_nil] at this;omega),Option.bind_some]
   unfold BP
   cases hn:vY 16 0 (t.take 2) with
   |none=>rfl
   |some n=>
    have h0:=MG (by decide) (Int.le_refl 0) hn
    simp only[Option.getD_some]
    by_cases h7:n≤127
    ·rw[if_pos (by simp;omega),if_pos (by simpa using h7),IntKind.wrap_u8,show n%256=n by omega];rfl
    ·rw[if_neg (by simp;omega),if_neg (by simpa using h7)];rfl
  rw[if_neg (by simp only[Bool.and_eq_true,decide_eq_true_eq];intro h;exact h5 ⟨h.1,by omega⟩),if_neg h5]
  by_cases h6:c=117∧4≤t.length
  ·rw[if_pos (by simp [h6.1];omega),if_pos h6,if_pos ⟨by decide,by decide,by omega⟩,aBm _ 16 (by decide) (by decide) (by rw[List.length_take];omega),if_neg (by intro h;have:=congrArg List.length h;rw[List.length_take,List.length_nil] at this;omega),Option.bind_some]
   unfold BP
   cases hn:vY 16 0 (t.take 4) with
   |none=>rfl
   |some n=>
    have h0:=MG (by decide) (Int.le_refl 0) hn
    simp only[Option.getD_some]
    show (if (decide (0≤n)&&uK n)=true then _ else _)=_
    by_cases h7:uK n=true
    ·rw[if_pos (by simp [h7,h0]),if_pos h7,a3C ((DF n).1 h7)];rfl
    ·rw[if_neg (by simp [h7]),if_neg h7];rfl
  rw[if_neg (by simp only[Bool.and_eq_true,decide_eq_true_eq];intro h;exact h6 ⟨h.1,by omega⟩),if_neg h6]
  rfl
theorem aG1 (a:UInt8) (t:List UInt8):DB (a::t)=some ((BQ (a::t)).1,((BQ (a::t)).2:Int)):=by
 cases t with
 |nil=>unfold DB;rw[if_pos (by simp)];rfl
 |cons c t=>
  have hy:p9 (a::c::t) (1:Int)=(c.toNat:Int):=uI (i:=1) (by simp)
  have hlen:((a::c::t).length:Int)=(t.length:Int)+2:=by simp;omega
  unfold DB
  rw[if_neg (by simp;omega),if_pos (⟨by decide,by simp;omega⟩),hy,sU (n:=110) 110 rfl,sU (n:=114) 114 rfl,sU (n:=116) 116 rfl,sU (n:=120) 120 rfl,sU (n:=117) 117 rfl,i0,aBp,aBq,aBr,hlen,←Lib.contains_iff_indexByte]
  show _=some ((if c=110 then(([10],2):List UInt8×Nat) else _).1,((if c=110 then(([10],2):List UInt8×Nat) else _).2:Int))
  by_cases h1:c=110
  ·rw[if_pos (by simpa using h1),if_pos h1];rfl
  rw[if_neg (by simpa using h1),if_neg h1]
  by_cases h2:c=114
  ·rw[if_pos (by simpa using h2),if_pos h2];rfl
  rw[if_neg (by simpa using h2),if_neg h2]
  by_cases h3:c=116
  ·rw[if_pos (by simpa using h3),if_pos h3];rfl
  rw[if_neg (by simpa using h3),if_neg h3]
  by_cases hx:c=120
  ·subst hx
   rw[if_pos (show decide ((120:UInt8)=120)=true from rfl),if_neg (show¬GU.contains 120=true by decide)]
   by_cases h5:2≤t.length
   ·rw[if_pos (by simp;omega),if_pos ⟨by decide,by decide,by omega⟩,if_pos (show _∧_ from⟨rfl,h5⟩),aBo _ 16 (by decide) (by decide) (by rw[List.length_take];omega),Option.bind_some]
    unfold BP
    cases hn:vY 16 0 (t.take 2) with
    |none=>rfl
    |some n=>
     have h0:=MG (by decide) (Int.le_refl 0) hn
     have hne:t.take 2≠[]:=by intro h;have:=congrArg List.length h;rw[List.length_take,List.length_nil] at this;omega
     simp only[hne,decide_false,Bool.not_false,Bool.true_and]
     by_cases h7:n≤127
     ·rw[if_pos (by simpa using h7),if_pos (by simpa using h7),IntKind.wrap_u8,show n%256=n by omega];rfl
     ·rw[if_neg (by simpa using h7),if_neg (by simpa using h7)];rfl
   ·rw[if_neg (by simp;omega),if_neg (fun h=>h5 h.2),if_neg (show¬((120:UInt8)=117∧4≤t.length) from fun h=>by cases h.1)]
    rfl
  rw[if_neg (by simpa using hx)]
  by_cases hu:c=117
  ·subst hu
   rw[if_pos (show decide ((117:UInt8)=117)=true from rfl),if_neg (show¬GU.contains 117=true by decide),if_neg (show¬((117:UInt8)=120∧2≤t.length) from fun h=>by cases h.1)]
   by_cases h5:4≤t.length
   ·rw[if_pos (by simp;omega),if_pos ⟨by decide,by decide,by omega⟩,if_pos (show _∧_ from⟨rfl,h5⟩),aBo _ 16 (by decide) (by decide) (by rw[List.length_take];omega),Option.bind_some]
    unfold BP
    cases hn:vY 16 0 (t.take 4) with
    |none=>rfl
    |some n=>
     have h0:=MG (by decide) (Int.le_refl 0) hn
     have hne:t.take 4≠[]:=by intro h;have:=congrArg List.length h;rw[List.length_take,List.length_nil] at this;omega
     simp only[hne,decide_false,Bool.not_false]
     rw[if_pos trivial,aGJ,Option.bind_some]
     have hb:uK n=(decide (n≤1114111)&&(decide (n<55296)||decide (57343<n))):=by
      unfold uK
      rw[show decide ((0:Int)≤n)=true by simpa using h0,Bool.true_and]
     rw[←hb]
     by_cases h7:uK n=true
     ·rw[if_pos h7,if_pos h7,if_pos h7];rfl
     ·rw[if_neg h7,if_neg h7];rfl
   ·rw[if_neg (by simp;omega),if_neg (fun h=>h5 h.2)]
    rfl
  rw[if_neg (by simpa using hu)]
  show (if GU.contains c=true then _ else _)=_
  by_cases h4:GU.contains c=true
  ·rw[if_pos h4,if_pos h4,if_pos ⟨by decide,by decide,by omega⟩];rfl
  ·rw[if_neg h4,if_neg h4,if_neg (fun h=>hx h.1),if_neg (fun h=>hu h.1)]
   rfl
end Go.Proofs.YtfchbnahjcdiiaaGreatDoor
namespace Go.Proofs.YtfchbnahjcdiiaaGreatDoor
open Vc
set_option maxRecDepth 100000
def yC (n:Int) (b:UInt8):Bool:=decide (b=10)||((decide (n=2)||decide (n=3))&&decide (b=34))
def sI (n:Int):List UInt8→List UInt8×Nat
 |[]=>([],0)
 |b::t=>if b=92 then BQ (b::t) else if yC n b=true then([b],0) else([b],1)
theorem aBs {l:List UInt8}{k:Nat}{ok:Int→Bool}{f:Int→List UInt8}(hf: ∀n,(f n).length≤4):(BP l k ok f).1.length≤4∧((BP l k ok f).2=0∨(BP l k ok f).2=k):=by
 unfold BP
 cases vY 16 0 l with
 |none=>exact⟨by simp,.inl rfl⟩
 |some n=>
  dsimp only
  split
  ·exact⟨hf n,.inr rfl⟩
  ·exact⟨by simp,.inl rfl⟩
theorem aG2 (l:List UInt8):(BQ l).1.length≤4∧(BQ l).2≤l.length:=by
 unfold BQ
 split
 ·rename_i a c t
  have h1:=aBs (l:=t.take 2) (k:=4) (ok:=fun n=>decide (n≤127)) (f:=fun n=>rC [n]) (fun n=>by simp [rC])
  have h2:=aBs (l:=t.take 4) (k:=6) (ok:=uK) (f:=Lib.encodeRune) aBe
  repeat' split
  all_goals first
   |exact⟨by simp,by simp⟩
   |(rename_i h;exact⟨h1.1,by rcases h1.2 with e|e<;>rw[e]<;>simp<;>omega⟩)
   |(rename_i h;exact⟨h2.1,by rcases h2.2 with e|e<;>rw[e]<;>simp<;>omega⟩)
 ·exact⟨by simp,by simp⟩
theorem a3O {n:Int}{b:UInt8}{t:List UInt8}(h:b=92):sI n (b::t)=BQ (b::t):=if_pos h
theorem R3 {n:Int}{b:UInt8}{t:List UInt8}(h:b≠92) (hb:yC n b=true):sI n (b::t)=([b],0):=(if_neg h).trans (if_pos hb)
theorem a3P {n:Int}{b:UInt8}{t:List UInt8}(h:b≠92) (hb: ¬yC n b=true):sI n (b::t)=([b],1):=(if_neg h).trans (if_neg hb)
theorem MH (n:Int) (l:List UInt8):(sI n l).1.length≤4∧(sI n l).2≤l.length:=by
 cases l with
 |nil=>exact⟨by simp [sI],by simp [sI]⟩
 |cons b t=>
  by_cases h:b=92
  ·rw[a3O h];exact aG2 _
  ·by_cases hb:yC n b=true
   ·rw[R3 h hb];exact⟨by simp,by simp⟩
   ·rw[a3P h hb];exact⟨by simp,by simp⟩
def vE (n:Int):Nat→List UInt8→List UInt8⊕Nat
 |0,_=> .inl []
 |_+1,[]=> .inl []
 |k+1,b::t=>if (sI n (b::t)).2=0 then .inr 0 else match vE n k ((b::t).drop (sI n (b::t)).2) with
  | .inl r=> .inl ((sI n (b::t)).1++r)
  | .inr e=> .inr ((sI n (b::t)).2+e)
def wI (n:Int) (s:List UInt8):List UInt8×Int×Int:=match vE n s.length s with
 | .inl r=>(r,0,0)
 | .inr e=>([],e,3)
theorem aBt (a b:List UInt8):sD (a++b)=sD a++sD b:=by simp [sD]
theorem aBu (a:List UInt8):rC (sD a)=a:=by
 unfold rC sD
 rw[List.map_map]
 conv=>rhs;rw[←List.map_id a]
 congr 1
 funext b
 simp
theorem aBv {s:List UInt8}{i:Nat}(h:i<s.length):oV s (i:Int) ((i:Int)+1)=[s[i]]:=by
 unfold oV
 rw[Int.toNat_natCast,show ((i:Int)+1).toNat-i=1 by omega,List.drop_eq_getElem_cons h]
 rfl
theorem aG3 {n:Int}(h1:1≤n) (h3:n≤3) {s:List UInt8}(hs:fit s) {x:List Int}{i:Nat}(hi:i<s.length) (hx:x.length≤10000000):
  IU n s (x,(i:Int))=if (sI n (s.drop i)).2=0 then some (.inr (.inr ([],(i:Int),3))) else some (.inl (x++sD (sI n (s.drop i)).1,((i+(sI n (s.drop i)).2:Nat):Int))):=by
 have hs':=hs
 unfold fit at hs'
 have hn4:decide (n=4)=false:=by simp;omega
 have hp:=MH n (s.drop i)
 rw[List.length_drop] at hp
 unfold IU
 dsimp only
 rw[if_pos (sH hi),if_pos (qD hi),if_pos (qW (by omega)),if_pos ⟨by omega,by omega,by omega⟩,uI hi,aBv hi,vP,sU (n:=92) 92 rfl,sU (n:=38) 38 rfl,sU (n:=10) 10 rfl,sU (n:=34) 34 rfl,hn4]
 have hb: ∀v:List UInt8×Nat,v.1.length≤4→v.2≤s.length-i→
   ((if decide ((v.2:Int)=0)=true then(some (.inr (.inr (([]:List UInt8),(i:Int),(3:Int)))):Option ((List Int×Int)⊕(List Int⊕(List UInt8×Int×Int)))) else if x.length+v.1.length≤140737488355328 then if i64 ((i:Int)+(v.2:Int)) then some (.inl ((x++sD v.1),((i:Int)+(v.2:Int)))) else none else none)=if v.2=0 then some (.inr (.inr ([],(i:Int),3))) else some (.inl (x++sD v.1,((i+v.2:Nat):Int)))):=fun v hv1 hv2=>by
  by_cases h0:v.2=0
  ·rw[if_pos (by simp [h0]),if_pos h0]
  ·rw[if_neg (by simpa using h0),if_neg h0,if_pos (by omega),if_pos (by unfold i64;omega)]
   rfl
 rw[List.drop_eq_getElem_cons hi] at hp⊢
 simp only[Bool.not_false,Bool.true_and,Bool.false_and,Bool.false_eq_true,if_false]
 by_cases c1:s[i]=92
 ·rw[a3O c1] at hp⊢
  rw[if_pos (by simpa using c1),if_pos ⟨by omega,by omega,Int.le_refl _⟩,aG0]
  unfold pW
  simp only[Option.bind_some]
  exact hb _ hp.1 hp.2
 ·rw[if_neg (by simpa using c1)]
  by_cases c2:s[i]=10
  ·rw[if_pos (by simpa using c2),if_pos (by simpa using c2),R3 c1 (show yC n s[i]=true by simp [yC,c2])]
   unfold pW
   simp only[Option.bind_some]
   exact hb ([s[i]],0) (by simp) (by simp)
  ·rw[if_neg (by simpa using c2)]
   by_cases c3:((decide (n=2)||decide (n=3))&&decide (s[i]=34))=true
   ·rw[if_pos c3,if_pos c3,R3 c1 (show yC n s[i]=true by unfold yC;rw[c3];simp)]
    unfold pW
    simp only[Option.bind_some]
    exact hb ([s[i]],0) (by simp) (by simp)
   ·have hbad:yC n s[i]=false:=by
     have c3':((decide (n=2)||decide (n=3))&&decide (s[i]=34))=false:=by simpa using c3
     unfold yC
     rw[c3'];simp [c2]
    have hbad': ¬yC n s[i]=true:=by simp [hbad]
    rw[a3P c1 hbad'] at hp⊢
    rw[if_neg c3,if_pos (fun h=>by simp at h)]
    unfold pW
    simp only[Option.bind_some]
    exact hb ([s[i]],1) (by simp) hp.2
theorem aG4 {n:Int}(h1:1≤n) (h3:n≤3) (b:UInt8):GF n (b.toNat:Int)=yC n b:=by
 unfold GF yC q6
 rw[sU (n:=10) 10 rfl,sU (n:=34) 34 rfl]
 by_cases c1:n=1
 ·subst c1;simp
 ·have h23:n=2∨n=3:=by omega
  rcases h23 with rfl|rfl<;>simp
theorem aG5 {x:List Int}{c:Int}(hx:x.length≤10000000):GG (x,()) c=some ():=by
 unfold GG
 exact if_pos (by simp only[List.length_singleton,Nat.mul_one];omega)
theorem aG6 {x:List Int}{t:List UInt8}(hx:x.length≤10000000) (ht:t.length≤1000000):G8 (x,()) t=some ():=by
 unfold G8
 exact if_pos (by dsimp only;omega)
theorem aG7 {n:Int}(h1:1≤n) (h3:n≤3) {s:List UInt8}(hs:fit s) {x:List Int}{i:Nat}(hi:i<s.length) (hx:x.length≤10000000):
  IX n s ((i:Int),x)=if (sI n (s.drop i)).2=0 then some (.inr (.inr ([],(i:Int),3))) else some (.inl (((i+(sI n (s.drop i)).2:Nat):Int),x++sD (sI n (s.drop i)).1)):=by
 have hs':=hs
 unfold fit at hs'
 have hp:=MH n (s.drop i)
 rw[List.length_drop] at hp
 unfold IX
 dsimp only
 rw[if_pos (sH hi),if_pos (qD hi),uI hi,vP,sU (n:=92) 92 rfl,aG4 h1 h3]
 rw[List.drop_eq_getElem_cons hi] at hp⊢
 by_cases c1:s[i]=92
 ·rw[a3O c1] at hp⊢
  rw[if_pos (by simpa using c1),if_pos ⟨by omega,by omega,Int.le_refl _⟩,aG1]
  simp only[Option.bind_some]
  by_cases h0:(BQ (s[i]::s.drop (i+1))).2=0
  ·rw[if_pos (by rw[h0];rfl),if_pos h0]
  ·rw[if_neg (by rw[decide_eq_true_eq];omega),if_neg h0,aG6 hx (by omega)]
   simp only[Option.bind_some]
   rw[if_pos (by unfold i64;omega)]
   rfl
 ·rw[if_neg (by simpa using c1),if_pos (qD hi)]
  by_cases hb:yC n s[i]=true
  ·rw[if_pos hb,R3 c1 hb];rfl
  ·rw[if_neg hb,a3P c1 hb,if_pos (qD hi),aG5 hx,Option.bind_some]
   rw[if_pos (qW (by omega))]
   rfl
theorem aBw {n:Int}(h1:1≤n) (h3:n≤3) {s:List UInt8}(hs:fit s): ∀(k i:Nat) (x:List Int),i≤s.length→s.length-i≤k→x.length+4*(s.length-i)≤5000000→
  pF (IU n s) (x,(i:Int))=some (match vE n k (s.drop i) with| .inl r=> .inl (x++sD r) | .inr e=> .inr ([],((i+e:Nat):Int),3))
 |k,i,x,hi,hk,hx=>by
  by_cases hlt:i<s.length
  ·cases k with
   |zero=>omega
   |succ k=>
    have hp:=MH n (s.drop i)
    rw[vN,aG3 h1 h3 hs hlt (by omega)]
    rw[List.length_drop] at hp
    have hu:vE n (k+1) (s.drop i)=if (sI n (s.drop i)).2=0 then .inr 0 else match vE n k ((s.drop i).drop (sI n (s.drop i)).2) with
      | .inl r=> .inl ((sI n (s.drop i)).1++r)
      | .inr e=> .inr ((sI n (s.drop i)).2+e):=by
     rw[List.drop_eq_getElem_cons hlt,vE]
    rw[hu]
    by_cases h0:(sI n (s.drop i)).2=0
    ·rw[if_pos h0,if_pos h0];rfl
    ·rw[if_neg h0,if_neg h0]
     show pF _ (_,((i+(sI n (s.drop i)).2:Nat):Int))=_
     rw[aBw h1 h3 hs k _ _ (by omega) (by omega) (by rw[List.length_append];simp only[sD,List.length_map];omega),List.drop_drop]
     cases vE n k (s.drop (i+(sI n (s.drop i)).2)) with
     |inl r=>dsimp only;rw[aBt,List.append_assoc]
     |inr e=>dsimp only;rw[Nat.add_assoc]
  ·have:i=s.length:=by omega
   subst this
   rw[tH (r:= .inl x) (by unfold IU;simp),List.drop_length]
   cases k<;>simp [vE,sD]
theorem aBx {n:Int}(h1:1≤n) (h3:n≤3) {s:List UInt8}(hs:fit s): ∀(k i:Nat) (x:List Int),i≤s.length→s.length-i≤k→x.length+4*(s.length-i)≤5000000→
  pF (IX n s) ((i:Int),x)=some (match vE n k (s.drop i) with| .inl r=> .inl (x++sD r) | .inr e=> .inr ([],((i+e:Nat):Int),3))
 |k,i,x,hi,hk,hx=>by
  by_cases hlt:i<s.length
  ·cases k with
   |zero=>omega
   |succ k=>
    have hp:=MH n (s.drop i)
    rw[vN,aG7 h1 h3 hs hlt (by omega)]
    rw[List.length_drop] at hp
    have hu:vE n (k+1) (s.drop i)=if (sI n (s.drop i)).2=0 then .inr 0 else match vE n k ((s.drop i).drop (sI n (s.drop i)).2) with
      | .inl r=> .inl ((sI n (s.drop i)).1++r)
      | .inr e=> .inr ((sI n (s.drop i)).2+e):=by
     rw[List.drop_eq_getElem_cons hlt,vE]
    rw[hu]
    by_cases h0:(sI n (s.drop i)).2=0
    ·rw[if_pos h0,if_pos h0];rfl
    ·rw[if_neg h0,if_neg h0]
     show pF _ (((i+(sI n (s.drop i)).2:Nat):Int),_)=_
     rw[aBx h1 h3 hs k _ _ (by omega) (by omega) (by rw[List.length_append];simp only[sD,List.length_map];omega),List.drop_drop]
     cases vE n k (s.drop (i+(sI n (s.drop i)).2)) with
     |inl r=>dsimp only;rw[aBt,List.append_assoc]
     |inr e=>dsimp only;rw[Nat.add_assoc]
  ·have:i=s.length:=by omega
   subst this
   rw[tH (r:= .inl x) (by unfold IX;simp),List.drop_length]
   cases k<;>simp [vE,sD]
theorem aBy {n:Int}(h1:1≤n) (h3:n≤3) {s:List UInt8}(hs:fit s):AP n s=some (wI n s):=by
 unfold AP
 have hs':=hs
 unfold fit at hs'
 rw[if_neg (by simp;omega),show (([]:List Int),(0:Int))=(([]:List Int),((0:Nat):Int)) from rfl,aBw h1 h3 hs s.length 0 [] (by omega) (by omega) (by simp;omega),List.drop_zero]
 unfold wI
 cases vE n s.length s with
 |inl r=>
  show some (rC ([]++sD r),(0:Int),(0:Int))=_
  rw[List.nil_append,aBu]
 |inr e=>
  show some (([]:List UInt8),((0+e:Nat):Int),(3:Int))=_
  rw[Nat.zero_add]
theorem aBz {n:Int}(h1:1≤n) (h3:n≤3) {s:List UInt8}(hs:fit s):AS n s=some (wI n s):=by
 unfold AS
 have hs':=hs
 unfold fit at hs'
 rw[if_neg (by simp;omega),if_neg (by simp;omega),show ((0:Int),([]:List Int))=(((0:Nat):Int),([]:List Int)) from rfl,aBx h1 h3 hs s.length 0 [] (by omega) (by omega) (by simp;omega),List.drop_zero]
 unfold wI
 cases vE n s.length s with
 |inl r=>
  show some (rC ([]++sD r),(0:Int),(0:Int))=_
  rw[List.nil_append,aBu]
 |inr e=>
  show some (([]:List UInt8),((0+e:Nat):Int),(3:Int))=_
  rw[Nat.zero_add]
theorem aBA (n:Int): ∀(k:Nat) (l r:List UInt8),vE n k l= .inl r→r.length≤4*k
 |0,_,_,h=>by cases h;simp
 |_+1,[],_,h=>by cases h;simp
 |k+1,b::t,r,h=>by
  rw[vE] at h
  split at h
  ·cases h
  ·have hp:=(MH n (b::t)).1
   cases hu:vE n k ((b::t).drop (sI n (b::t)).2) with
   |inl r'=>
    rw[hu] at h
    cases h
    have:=aBA n k _ r' hu
    rw[List.length_append];omega
   |inr e=>rw[hu] at h;cases h
theorem JF (n:Int) (s:List UInt8):(wI n s).1.length≤4*s.length:=by
 unfold wI
 cases h:vE n s.length s with
 |inl r=>exact aBA n _ _ _ h
 |inr e=>simp
end Go.Proofs.YtfchbnahjcdiiaaGreatDoor
namespace Go.Proofs.YtfchbnahjcdiiaaGreatDoor
open Vc
set_option maxRecDepth 100000
def qQ (x y:UInt8):List UInt8→Bool
 |b::c::_=>decide (b=x)&&decide (c=y)
 |_=>false
theorem RB {s:List UInt8}{i:Nat}(hi:i≤s.length) (x y:UInt8):((decide ((List.length ([x,y]:List UInt8):Int)≤((List.length s:Int)- (i:Int))))&&(decide ((oV s (i:Int) ((i:Int)+(List.length ([x,y]:List UInt8):Int)))=([x,y]:List UInt8))))=qQ x y (s.drop i):=by
 have hc:oV s (i:Int) ((i:Int)+(List.length ([x,y]:List UInt8):Int))=(s.drop i).take 2:=by
  unfold oV
  rw[Int.toNat_natCast]
  congr 1
  show ((i:Int)+2).toNat-i=2
  omega
 have hl:(s.drop i).length=s.length-i:=List.length_drop
 rw[hc]
 generalize s.drop i=r at hl
 match r,hl with
 |[],hl=>simp only[List.length_nil] at hl;rw[show decide ((List.length ([x,y]:List UInt8):Int)≤((List.length s:Int)- (i:Int)))=false by simp only[List.length_cons,List.length_nil,decide_eq_false_iff_not];omega];rfl
 |[b],hl=>simp only[List.length_cons,List.length_nil] at hl;rw[show decide ((List.length ([x,y]:List UInt8):Int)≤((List.length s:Int)- (i:Int)))=false by simp only[List.length_cons,List.length_nil,decide_eq_false_iff_not];omega];rfl
 |b::c::t,hl=>
  simp only[List.length_cons] at hl
  rw[show decide ((List.length ([x,y]:List UInt8):Int)≤((List.length s:Int)- (i:Int)))=true by simp;omega,Bool.true_and]
  show decide ([b,c]=[x,y])=_
  unfold qQ
  rw[Bool.eq_iff_iff]
  simp
theorem JH (r:List UInt8) (x y:UInt8):((decide ((List.length ([x,y]:List UInt8):Int)≤(List.length r:Int)))&&(decide ((oV r (0:Int) (List.length ([x,y]:List UInt8):Int))=([x,y]:List UInt8))))=qQ x y r:=by
 have:=RB (s:=r) (i:=0) (Nat.zero_le _) x y
 rw[List.drop_zero,show ((0:Nat):Int)=0 from rfl,Int.sub_zero,Int.zero_add] at this
 exact this
theorem MK (r:List UInt8) (x y:UInt8):D4 r [x,y]=some ():=by
 have h2:((List.length ([x,y]:List UInt8):Nat):Int)=2:=rfl
 unfold D4 CV
 rw[h2,if_pos]
 ·rfl
 ·intro h
  simp only[beq_iff_eq,decide_eq_true_eq] at h
  exact⟨Int.le_refl _,by decide,h⟩
theorem aBC (x y:UInt8):(x==y)=decide (y=x):=by
 by_cases h:y=x
 ·subst h;rw[beq_self_eq_true,decide_eq_true rfl]
 ·rw[decide_eq_false h,beq_eq_false_iff_ne];exact fun e=>h e.symm
theorem aBD {o:Option Nat}:(if (vD o== -1)=true then(-1:Int) else vD o+1)=vD (o.map (· +1)):=by
 cases o with
 |none=>rfl
 |some k=>
  show (if ((k:Int)== -1)=true then(-1:Int) else(k:Int)+1)=((k+1:Nat):Int)
  rw[if_neg (by rw[beq_iff_eq];omega)]
  rfl
theorem RC: ∀(l:List UInt8),Lib.indexByte l 10=vD (l.findIdx? fun b=>decide (b=10))
 |[]=>rfl
 |b::t=>by
  rw[Lib.indexByte,List.findIdx?_cons,RC t,aBC,aBD]
  by_cases h:b=10
  ·subst h;rfl
  ·rw[if_neg (by simpa using fun e=>h (Eq.symm e)),if_neg (by simpa using h)]
end Go.Proofs.YtfchbnahjcdiiaaGreatDoor
namespace Go.Proofs.YtfchbnahjcdiiaaGreatDoor
open Vc
set_option maxRecDepth 100000
end Go.Proofs.YtfchbnahjcdiiaaGreatDoor
namespace Go.Proofs.YtfchbnahjcdiiaaGreatDoor
open Vc
set_option maxRecDepth 100000
end Go.Proofs.YtfchbnahjcdiiaaGreatDoor
namespace Go.Proofs.YtfchbnahjcdiiaaGreatDoor
open Vc
set_option maxRecDepth 100000
end Go.Proofs.YtfchbnahjcdiiaaGreatDoor
namespace Go.Proofs.YtfchbnahjcdiiaaGreatDoor
open Vc
set_option maxRecDepth 100000
theorem uB {p:Prop}{α:Type}{v:α}:p→(some v).isSome=true:=fun _=>rfl
abbrev C4:=List UInt8×(List (List UInt8)×(List Fld×(List dT1×Unit)))
abbrev R8:=Int×Int×List UInt8×Int×Int×Int×Int×Int
end Go.Proofs.YtfchbnahjcdiiaaGreatDoor
namespace Go.Proofs.YtfchbnahjcdiiaaGreatDoor
open Vc
set_option maxRecDepth 100000
end Go.Proofs.YtfchbnahjcdiiaaGreatDoor
namespace Go.Proofs.YtfchbnahjcdiiaaGreatDoor
open Vc
set_option maxRecDepth 100000
end Go.Proofs.YtfchbnahjcdiiaaGreatDoor
namespace Go.Proofs.YtfchbnahjcdiiaaGreatDoor
open Vc
set_option maxRecDepth 100000
section
variable {s:List UInt8}(hsm:s.length≤5000) {P:Nat}(hP:P≤s.length) {c:C4}{bad e:Int}{ends:List Int}{kind:Int}{text:List UInt8}
include hsm hP
def uL (l:List (List UInt8)) (x:List UInt8):Nat:=(l.findIdx? fun y=> !Op.bytesLess y x).getD l.length
def F4 (l:List (List UInt8)) (x:List UInt8):List (List UInt8):=l.take (uL l x)++[x]++l.drop (uL l x)
omit hsm hP in
theorem aBL (l:List (List UInt8)) (x:List UInt8):uL l x≤l.length:=by
 unfold uL
 cases h:l.findIdx? fun y=> !Op.bytesLess y x with
 |none=>exact Nat.le_refl _
 |some k=>exact Nat.le_of_lt (List.findIdx?_eq_some_iff_getElem.1 h).1
end
end Go.Proofs.YtfchbnahjcdiiaaGreatDoor
namespace Go.Proofs.YtfchbnahjcdiiaaGreatDoor
open Vc
set_option maxRecDepth 100000
end Go.Proofs.YtfchbnahjcdiiaaGreatDoor
namespace Go.Proofs.YtfchbnahjcdiiaaGreatDoor
open Vc
set_option maxRecDepth 100000
end Go.Proofs.YtfchbnahjcdiiaaGreatDoor
namespace Go.Proofs.YtfchbnahjcdiiaaGreatDoor
open Vc
set_option maxRecDepth 100000
theorem z8 {v:Ty}(a b:List UInt8) (y:v.den): ∀l:List (List UInt8×v.den),mget .str v (qK .str v a y l) b=if b=a then y else mget .str v l b
 |[]=>by
  show (if decide (b=a)=true then y else v.zero)=if b=a then y else v.zero
  by_cases h:b=a<;>simp [h]
 |(x,z)::r=>by
  have ih:=z8 a b y r
  show mget .str v (if decide (a=x)=true then(a,y)::r else(x,z)::qK .str v a y r) b=if b=a then y else(if decide (b=x)=true then z else mget .str v r b)
  by_cases h:a=x
  ·rw[if_pos (decide_eq_true h)]
   show (if decide (b=a)=true then y else mget .str v r b)=_
   by_cases hb:b=a
   ·rw[if_pos (decide_eq_true hb),if_pos hb]
   ·rw[if_neg (by simpa using hb),if_neg hb,if_neg (by rw[←h];simpa using hb)]
  ·rw[if_neg (by simpa using h)]
   show (if decide (b=x)=true then z else mget .str v (qK .str v a y r) b)=_
   rw[ih]
   by_cases hb:b=a
   ·rw[if_pos hb,if_pos hb,if_neg (by rw[hb];simpa using h)]
   ·rw[if_neg hb,if_neg hb]
abbrev F5:=Int×Int×List UInt8×Int×Int×Int×Int×Int×List UInt8×List UInt8×List (List UInt8)×Int×List Fld×List (List UInt8)×List (List UInt8×Bool)
def qJ (r:R8) (sr tg:List UInt8) (cm:List (List UInt8)) (st:Int) (fd:List Fld) (l:List (List UInt8)) (m:List (List UInt8×Bool)):F5:=
 (r.1,r.2.1,r.2.2.1,r.2.2.2.1,r.2.2.2.2.1,r.2.2.2.2.2.1,r.2.2.2.2.2.2.1,r.2.2.2.2.2.2.2,sr,tg,cm,st,fd,l,m)
end Go.Proofs.YtfchbnahjcdiiaaGreatDoor
namespace Go.Proofs.YtfchbnahjcdiiaaGreatDoor
open Vc
set_option maxRecDepth 100000
theorem a3Z: ∀(x y:List UInt8),Op.bytesLess x y=decide (x<y)
 |[],[]=>by simp [Op.bytesLess]
 |_::_,[]=>by simp [Op.bytesLess]
 |[],_::_=>by simp [Op.bytesLess]
 |a::x,b::y=>by
  rw[Op.bytesLess,a3Z x y]
  simp only[List.cons_lt_cons_iff]
  by_cases h1:a<b<;>by_cases h2:a=b<;>by_cases h3:x<y<;>simp [h1,h2,h3]
theorem aBS (l:List (List UInt8)):(qH l).Pairwise (·≤·):=by
 have:=List.pairwise_mergeSort (le:=fun x y:List UInt8=>decide (x≤y)) (fun a b c h1 h2=>decide_eq_true (List.le_trans (of_decide_eq_true h1) (of_decide_eq_true h2))) (fun a b=>by simpa using List.le_total a b) l
 exact this.imp (fun h=>of_decide_eq_true h)
theorem RO (l:List (List UInt8)):(qH l).Perm l:=List.mergeSort_perm l _
theorem DI (l:List (List UInt8)):(qH l).length=l.length:=(RO l).length_eq
theorem aBT (l:List (List UInt8)) (p:List UInt8→Bool):(qH l).any p=l.any p:=(RO l).any_eq
theorem aHZ (l:List (List UInt8)) (x:List UInt8):(F4 l x).Perm (l++[x]):=by
 unfold F4
 have h:(l.take (uL l x)++l.drop (uL l x))=l:=List.take_append_drop _ _
 have h2:(l.take (uL l x)++[x]++l.drop (uL l x)).Perm (l.take (uL l x)++(l.drop (uL l x)++[x])):=by
  rw[List.append_assoc]
  exact List.Perm.append_left _ List.perm_append_comm
 have h3:l.take (uL l x)++(l.drop (uL l x)++[x])=l++[x]:=by rw[←List.append_assoc,h]
 rw[h3] at h2
 exact h2
theorem aH0 {l:List (List UInt8)}(x:List UInt8) (h:l.Pairwise (·≤·)):(F4 l x).Pairwise (·≤·):=by
 have ht: ∀y∈l.take (uL l x),y≤x:=by
  intro y hy
  obtain⟨j,hj,rfl⟩:=List.mem_iff_getElem.1 hy
  rw[List.length_take] at hj
  rw[List.getElem_take]
  have:Op.bytesLess l[j] x=true:=by
   have hk:uL l x=(l.findIdx? fun y=> !Op.bytesLess y x).getD l.length:=rfl
   cases hf:l.findIdx? fun y=> !Op.bytesLess y x with
   |none=>
    have:=List.findIdx?_eq_none_iff.1 hf l[j] (List.getElem_mem _)
    simpa using this
   |some n=>
    rw[hf] at hk
    have:=(List.findIdx?_eq_some_iff_getElem.1 hf).2.2 j (by rw[hk] at hj;simp only[Option.getD_some] at hj;omega)
    simpa using this
  rw[a3Z] at this
  exact List.le_of_lt (of_decide_eq_true this)
 have hd: ∀y∈l.drop (uL l x),x≤y:=by
  intro y hy
  have hk:uL l x=(l.findIdx? fun y=> !Op.bytesLess y x).getD l.length:=rfl
  cases hf:l.findIdx? fun y=> !Op.bytesLess y x with
  |none=>
   rw[hf] at hk
   rw[hk] at hy
   simp at hy
  |some n=>
   rw[hf] at hk
   obtain⟨hn,h1,h2⟩:=List.findIdx?_eq_some_iff_getElem.1 hf
   have hx:x≤l[n]:=by
    rw[a3Z] at h1
    simp only[Bool.not_eq_true',decide_eq_false_iff_not] at h1
    exact List.not_lt.1 h1
   rw[hk] at hy
   simp only[Option.getD_some] at hy
   rw[List.drop_eq_getElem_cons hn] at hy
   rcases List.mem_cons.1 hy with rfl|hy
   ·exact hx
   ·have hp:(l.drop n).Pairwise (·≤·):=h.sublist (List.drop_sublist _ _)
    rw[List.drop_eq_getElem_cons hn] at hp
    exact List.le_trans hx ((List.pairwise_cons.1 hp).1 y hy)
 unfold F4
 rw[List.append_assoc]
 refine List.pairwise_append.2 ⟨h.sublist (List.take_sublist _ _),List.pairwise_append.2 ⟨List.pairwise_singleton _ _,h.sublist (List.drop_sublist _ _),?_⟩,?_⟩
 ·intro a ha b hb
  rw[List.mem_singleton.1 ha];exact hd b hb
 ·intro a ha b hb
  have hax:=ht a ha
  rcases List.mem_append.1 hb with hb|hb
  ·rw[List.mem_singleton.1 hb];exact hax
  ·exact List.le_trans hax (hd b hb)
theorem aBU (l:List (List UInt8)) (x:List UInt8):F4 (qH l) x=qH (l++[x]):=
 List.Perm.eq_of_pairwise (fun _ _ _ _ h1 h2=>List.le_antisymm h1 h2) (aH0 x (aBS l)) (aBS _)
  ((aHZ _ _).trans (((RO l).append_right _).trans (RO _).symm))
end Go.Proofs.YtfchbnahjcdiiaaGreatDoor
namespace Go.Proofs.YtfchbnahjcdiiaaGreatDoor
open Vc
set_option maxRecDepth 100000
end Go.Proofs.YtfchbnahjcdiiaaGreatDoor
namespace Go.Proofs.YtfchbnahjcdiiaaGreatDoor
open Vc
set_option maxRecDepth 100000
end Go.Proofs.YtfchbnahjcdiiaaGreatDoor
namespace Go.Proofs.YtfchbnahjcdiiaaGreatDoor
open Vc
set_option maxRecDepth 100000
theorem RT {σ ρ:Type}{f:σ→Option (σ⊕ρ)}{x y:σ}(h:f x=some (.inl y)):pF f x=pF f y:=by
 rw[vN,h];rfl
theorem BW {σ ρ:Type}{f:σ→Option (σ⊕ρ)}{x:σ}{r:ρ}(h:f x=some (.inr r)):pF f x=some r:=by
 rw[vN,h];rfl
end Go.Proofs.YtfchbnahjcdiiaaGreatDoor
namespace Go.Proofs.YtfchbnahjcdiiaaGreatDoor
open Vc
set_option maxRecDepth 100000
abbrev EntFit (y:dT1):Prop:=fit y.2.2.2.1∧fit y.2.2.2.2.1∧fit y.2.2.2.2.2.2.1
end Go.Proofs.YtfchbnahjcdiiaaGreatDoor
namespace Go.Proofs.YtfchbnahjcdiiaaGreatDoor
open Vc
set_option maxRecDepth 100000
def a32 (es:List dT1) (x:List UInt8):Int×Bool:=sP (fun k=>((k:Int),true)) ((0:Int),false) (es.findIdx? fun y=>decide (y.1=x))
theorem aBZ (es:List dT1) (x:List UInt8):(a32 es x).2=es.any fun y=>decide (y.1=x):=by
 rw[←QV]
 unfold a32
 cases es.findIdx? fun y=>decide (y.1=x)<;>rfl
theorem aB0 (c:C4) (x:List UInt8) (hl:c.2.2.2.1.length≤5000):CS c x=some (a32 c.2.2.2.1 x):=by
 have h:=AH (f:=LG c x) (l:=c.2.2.2.1) (fun y=>decide (y.1=x)) (fun k=>((k:Int),true)) (fun i h=>by
  unfold LG
  rw[if_pos (sH h),if_pos (qD h),vO (t:=BC) h,if_pos (qW (by omega))]) (by
  unfold LG
  rw[if_neg (wH _)])
 unfold CS
 rw[h,BN]
 rfl
def IdsOk (ids:List (List UInt8×Bool)) (es:List dT1):Prop:= ∀x,mget .str .bool ids x=es.any fun y=>decide (y.1=x)
theorem aB1 {ids:List (List UInt8×Bool)}{es:List dT1}(h:IdsOk ids es) (e:dT1) (x:List UInt8) (he:e.1=x):IdsOk (qK .str .bool x true ids) (es++[e]):=by
 intro y
 rw[z8,List.any_append,←h y]
 by_cases hy:y=x
 ·rw[if_pos hy];simp [he,hy]
 ·rw[if_neg hy]
  have:decide (e.1=y)=false:=by rw[he];simpa using fun hh=>hy hh.symm
  simp [this]
end Go.Proofs.YtfchbnahjcdiiaaGreatDoor
namespace Go.Proofs.YtfchbnahjcdiiaaGreatDoor
open Vc
set_option maxRecDepth 100000
end Go.Proofs.YtfchbnahjcdiiaaGreatDoor
namespace Go.Proofs.YtfchbnahjcdiiaaGreatDoor
open Vc
set_option maxRecDepth 100000
theorem AZ {α:Type}:fit ([]:List α):=by unfold fit;exact Nat.zero_le _
def F8 (P:Nat) (ends:List Int):Prop:= ∃l:List Nat,ends=l.map (fun n:Nat=>(n:Int))∧l≠[]∧l.Pairwise (·≤·)∧∀x∈l,x≤P
theorem aIq {P P':Nat}{ends:List Int}(h:F8 P ends) (hP:P≤P'):F8 P' (ends++[(P':Int)]):=by
 obtain⟨l,rfl,h1,h2,h3⟩:=h
 refine⟨l++[P'],by rw[List.map_append];rfl,List.append_ne_nil_of_right_ne_nil _ (List.cons_ne_nil _ _),?_,fun x hx=> ?_⟩
 ·rw[List.pairwise_append]
  exact⟨h2,List.pairwise_singleton _ _,fun x hx y hy=>by rw[List.mem_singleton.1 hy];exact Nat.le_trans (h3 x hx) hP⟩
 ·rcases List.mem_append.1 hx with hx|hx
  ·exact Nat.le_trans (h3 x hx) hP
  ·rw[List.mem_singleton.1 hx];exact Nat.le_refl _
theorem aIr (P:Nat):F8 P [(P:Int)]:=⟨[P],rfl,List.cons_ne_nil _ _,List.pairwise_singleton _ _,fun x hx=>by rw[List.mem_singleton.1 hx];exact Nat.le_refl _⟩
theorem a33 {P P':Nat}{ends:List Int}(h:F8 P ends) (hP:P≤P'):F8 P' ends:=by
 obtain⟨l,h0,h1,h2,h3⟩:=h
 exact⟨l,h0,h1,h2,fun x hx=>Nat.le_trans (h3 x hx) hP⟩
end Go.Proofs.YtfchbnahjcdiiaaGreatDoor
namespace Go.Proofs.YtfchbnahjcdiiaaGreatDoor
open Vc
set_option maxRecDepth 100000
end Go.Proofs.YtfchbnahjcdiiaaGreatDoor
namespace Go.Proofs.YtfchbnahjcdiiaaGreatDoor
open Vc
set_option maxRecDepth 100000
def tE (x:UInt8) (s:List UInt8):List UInt8:=if s.getLast? =some x then s.dropLast else s
def zA (x:UInt8) (s:List UInt8):List UInt8:=if s.head? =some x then s.drop 1 else s
theorem a34 (x:UInt8) (s:List UInt8):(tE x s).length≤s.length:=by
 unfold tE
 split
 ·rw[List.length_dropLast];omega
 ·exact Nat.le_refl _
theorem aIs (x:UInt8) (s:List UInt8):(zA x s).length≤s.length:=by
 unfold zA
 split
 ·rw[List.length_drop];omega
 ·exact Nat.le_refl _
theorem MU (s:List UInt8) (x:UInt8):((decide ((List.length ([x]:List UInt8):Int)≤(List.length s:Int)))&&(decide ((oV s (0:Int) (List.length ([x]:List UInt8):Int))=([x]:List UInt8))))=decide (s.head? =some x):=by
 cases s with
 |nil=>simp
 |cons b t=>
  rw[show oV (b::t) (0:Int) (List.length ([x]:List UInt8):Int)=[b] from rfl]
  rw[show decide ((List.length ([x]:List UInt8):Int)≤(List.length (b::t):Int))=true by simp<;>omega,Bool.true_and]
  simp
theorem aIt (s:List UInt8) (x:UInt8):((decide ((List.length ([x]:List UInt8):Int)≤(List.length s:Int)))&&(decide ((oV s ((List.length s:Int)- (List.length ([x]:List UInt8):Int)) (List.length s:Int))=([x]:List UInt8))))=decide (s.getLast? =some x):=by
 rcases List.eq_nil_or_concat s with rfl|⟨t,b,rfl⟩
 ·simp
 ·rw[List.concat_eq_append]
  have hl:(t++[b]).length=t.length+1:=by simp
  have hc:oV (t++[b]) (((t++[b]).length:Int)- (List.length ([x]:List UInt8):Int)) ((t++[b]).length:Int)=[b]:=by
   unfold oV
   rw[hl,show (((t.length+1:Nat):Int)- (List.length ([x]:List UInt8):Int)).toNat=t.length by simp,show ((t.length+1:Nat):Int).toNat-t.length=1 by omega,List.drop_left]
   rfl
  rw[hc,show decide ((List.length ([x]:List UInt8):Int)≤((t++[b]).length:Int))=true by simp<;>omega,Bool.true_and]
  simp
theorem aB3 (s:List UInt8) (x:UInt8) (n:Int) (hn:(x.toNat:Int)=n):((decide ((0:Int)<(List.length s:Int)))&&(decide ((p9 s ((List.length s:Int)- (1:Int)))=n)))=decide (s.getLast? =some x):=by
 subst hn
 rcases List.eq_nil_or_concat s with rfl|⟨t,b,rfl⟩
 ·simp
 ·rw[List.concat_eq_append]
  have hl:(t++[b]).length=t.length+1:=by simp
  have hb:p9 (t++[b]) (((t++[b]).length:Int)-1)=(b.toNat:Int):=by
   rw[hl,show ((t.length+1:Nat):Int)-1=(t.length:Int) by omega,uI (by omega)]
   simp
  rw[hb,show decide ((0:Int)<((t++[b]).length:Int))=true by simp<;>omega,Bool.true_and]
  rw[Bool.eq_iff_iff,decide_eq_true_eq,decide_eq_true_eq,AW]
  simp
theorem a35 {s:List UInt8}{x:UInt8}(h:s.getLast? =some x):1≤s.length:=by
 cases s with
 |nil=>simp at h
 |cons b t=>simp
theorem a36 {s:List UInt8}{x:UInt8}(h:s.head? =some x):1≤s.length:=by
 cases s with
 |nil=>simp at h
 |cons b t=>simp
theorem a38 {s:List UInt8}(h:1≤s.length):oV s 0 ((s.length:Int)-1)=s.dropLast:=by
 rw[show ((s.length:Int)-1)=((s.length-1:Nat):Int) by omega,F0,List.dropLast_eq_take]
theorem a39 {s:List UInt8}(hs:fit s) (x:UInt8):zR s [x]=some (tE x s):=by
 unfold fit at hs
 have h1:((List.length ([x]:List UInt8):Nat):Int)=1:=rfl
 unfold zR IM LN
 rw[aIt,h1,if_pos (fun _=>by unfold i64;omega),if_pos (fun hh=>by simp only[beq_iff_eq,decide_eq_true_eq] at hh;omega),Option.bind_some]
 unfold tE
 by_cases h:s.getLast? =some x
 ·have:=a35 h
  rw[if_pos (by simpa using h),if_pos h,if_pos (by unfold i64;omega),if_pos (by omega),a38 this]
  rfl
 ·rw[if_neg (by simpa using h),if_neg h]
  rfl
theorem aB4 (s:List UInt8) (x:UInt8):CV s [x]=some ():=by
 have h1:((List.length ([x]:List UInt8):Nat):Int)=1:=rfl
 unfold CV
 rw[h1,if_pos (fun hh=>by simp only[beq_iff_eq,decide_eq_true_eq] at hh;omega)]
theorem a4a {s:List UInt8}:oV s 1 (s.length:Int)=s.drop 1:=vP (k:=1)
theorem aIu (s:List UInt8) (x:UInt8):GL s [x]=some (zA x s):=by
 have h1:((List.length ([x]:List UInt8):Nat):Int)=1:=rfl
 unfold GL IG
 rw[MU,aB4,Option.bind_some]
 unfold zA
 by_cases h:s.head? =some x
 ·have:=a36 h
  rw[if_pos (by simpa using h),if_pos h,h1,if_pos (by omega),a4a]
  rfl
 ·rw[if_neg (by simpa using h),if_neg h]
  rfl
theorem aIv (s:List UInt8) (x:UInt8):BJ s [x]=some (zA x s,decide (s.head? =some x)):=by
 have h1:((List.length ([x]:List UInt8):Nat):Int)=1:=rfl
 unfold BJ GE
 rw[MU,aB4,Option.bind_some]
 unfold zA
 by_cases h:s.head? =some x
 ·have:=a36 h
  rw[if_neg (by simpa using h),if_pos h,h1,if_pos (by omega),a4a,decide_eq_true h]
  rfl
 ·rw[if_pos (by simpa using h),if_neg h,decide_eq_false h]
  rfl
theorem a4b (s:List UInt8) (x:UInt8):zL s [x]=some ():=by
 have h1:((List.length ([x]:List UInt8):Nat):Int)=1:=rfl
 unfold zL
 rw[h1,if_pos (fun hh=>by simp only[beq_iff_eq,decide_eq_true_eq] at hh;omega)]
theorem aB5 (s:List UInt8) (x y:UInt8):zL s [x,y]=some ():=by
 have h1:((List.length ([x,y]:List UInt8):Nat):Int)=2:=rfl
 unfold zL
 rw[h1,if_pos (fun hh=>by simp only[beq_iff_eq,decide_eq_true_eq] at hh;omega)]
def GY (b:UInt8):Bool:=[32,9].contains b
theorem a4c {p:UInt8→Bool}: ∀(l:List UInt8),l.drop (l.takeWhile p).length=l.dropWhile p
 |[]=>rfl
 |b::t=>by
  rw[List.takeWhile_cons,List.dropWhile_cons]
  cases h:p b with
  |true=>simp only[if_true,List.length_cons,List.drop_succ_cons];exact a4c t
  |false=>rfl
theorem aIw (b:UInt8):(decide ((b.toNat:Int)=(32:Int))||decide ((b.toNat:Int)=(9:Int)))=GY b:=by
 have h1:decide ((b.toNat:Int)=(32:Int))=decide (b=32):=by
  rw[Bool.eq_iff_iff,decide_eq_true_eq,decide_eq_true_eq]
  exact AW (a:=b) (b:=32)
 have h2:decide ((b.toNat:Int)=(9:Int))=decide (b=9):=by
  rw[Bool.eq_iff_iff,decide_eq_true_eq,decide_eq_true_eq]
  exact AW (a:=b) (b:=9)
 rw[h1,h2]
 unfold GY
 rw[Bool.eq_iff_iff]
 simp
theorem aB6 {l:List UInt8}(hl:fit l): ∀(n j:Nat),j+n=l.length→pF (IE l) (j:Int)=some ((j+((l.drop j).takeWhile GY).length:Nat):Int)
 |0,j,hj=>by
  have:j=l.length:=by omega
  subst this
  rw[List.drop_length]
  refine tH ?_
  unfold IE
  rw[if_pos (fun hh=>by simp at hh),if_pos (fun hh=>by simp at hh),if_neg (by simp)]
  rfl
 |n+1,j,hj=>by
  have hlt:j<l.length:=by omega
  unfold fit at hl
  have hst:IE l (j:Int)=if GY l[j]=true then some (.inl ((j+1:Nat):Int)) else some (.inr (j:Int)):=by
   unfold IE
   rw[if_pos (fun _=>qD hlt),if_pos (fun _=>qD hlt),uI hlt,aIw,sH hlt,Bool.true_and,if_pos (qW (by omega))]
   rfl
  rw[List.drop_eq_getElem_cons hlt,List.takeWhile_cons]
  cases hb:GY l[j] with
  |true=>
   rw[CF (hst.trans (if_pos hb)),aB6 hl n (j+1) (by omega)]
   simp only[if_true,List.length_cons]
   congr 1
   omega
  |false=>
   rw[tH (hst.trans (if_neg (by rw[hb];exact Bool.false_ne_true)))]
   rfl
def RU (line:List UInt8):List UInt8:=(tE 10 line).dropWhile GY
theorem aIx (p:UInt8→Bool) (l:List UInt8):(l.dropWhile p).length≤l.length:=by
 rw[←a4c,List.length_drop]
 omega
theorem aIy (line:List UInt8):(RU line).length≤line.length:=Nat.le_trans (aIx _ _) (a34 _ _)
theorem aIz (p:UInt8→Bool) (l:List UInt8):(l.takeWhile p).length≤l.length:=(List.takeWhile_sublist p).length_le
theorem aIA {line:List UInt8}(hl:fit line):GA line=some (RU line):=by
 have hl':=hl
 unfold fit at hl'
 have hc:=a34 10 line
 unfold GA
 rw[if_pos (fun hh=>by unfold i64;omega),if_pos (fun hh=>by simp only[beq_iff_eq,decide_eq_true_eq] at hh;omega),aB3 line 10 10 rfl]
 have hb:(if decide (line.getLast? =some 10)=true then(if i64 ((List.length line:Int)- (1:Int)) then(if 0≤(0:Int)∧(0:Int)≤((List.length line:Int)- (1:Int))∧((List.length line:Int)- (1:Int))≤(List.length line:Int) then some (oV line (0:Int) ((List.length line:Int)- (1:Int))) else none) else none) else some line)=some (tE 10 line):=by
  unfold tE
  by_cases h:line.getLast? =some 10
  ·have:=a35 h
   rw[if_pos (by simpa using h),if_pos h,if_pos (by unfold i64;omega),if_pos (by omega),a38 this]
  ·rw[if_neg (by simpa using h),if_neg h]
 rw[hb]
 have hf:fit (tE 10 line):=by unfold fit;omega
 have hlp:=aB6 hf (tE 10 line).length 0 (by omega)
 rw[List.drop_zero,Nat.zero_add] at hlp
 have htw:=aIz GY (tE 10 line)
 unfold pW
 rw[Option.bind_some,show ((0:Nat):Int)=(0:Int) from rfl] at*
 rw[hlp,Option.bind_some,if_pos (by omega),vP,a4c]
 rfl
def tU (s:List UInt8):List UInt8×Bool:=((wI 1 s).1,decide ((wI 1 s).2.2=0)&&BO (wI 1 s).1)
theorem a4d (s:List UInt8):(tU s).1.length≤4*s.length:=JF 1 s
theorem aIB:tU []=([],true):=by rfl
theorem RV {s:List UInt8}(hs:s.length≤5000):AQ s=some (tU s):=by
 have hf:fit (wI 1 s).1:=by have:=JF 1 s;unfold fit;omega
 unfold AQ
 rw[aBy (by decide) (by decide) (by unfold fit;omega),Option.bind_some,(a3I _ hf).1,if_pos uB,(a3I _ hf).2]
 rfl
theorem MV {s:List UInt8}(hs:s.length≤5000):zU s=some (tU s):=by
 have hf:fit (wI 1 s).1:=by have:=JF 1 s;unfold fit;omega
 unfold zU
 rw[aBz (by decide) (by decide) (by unfold fit;omega),Option.bind_some,aBh _ hf,if_pos uB]
 rfl
def F9 (s:List UInt8):Option (List UInt8×List UInt8):=(rE 61 s).map fun k=>(tE 32 (s.take k),zA 32 (s.drop (k+1)))
def aB7:Option (List UInt8×List UInt8)→List UInt8×List UInt8×Bool
 |none=>([],[],false)
 |some p=>(p.1,p.2,true)
theorem aIC {s:List UInt8}{p:List UInt8×List UInt8}(h:F9 s=some p):p.1.length≤s.length∧p.2.length≤s.length:=by
 unfold F9 at h
 cases hk:rE 61 s with
 |none=>rw[hk] at h;cases h
 |some k=>
  rw[hk] at h
  cases h
  have h1:=a34 32 (s.take k)
  have h2:=aIs 32 (s.drop (k+1))
  rw[List.length_take] at h1
  rw[List.length_drop] at h2
  exact⟨by show (tE 32 (s.take k)).length≤_;omega,by show (zA 32 (s.drop (k+1))).length≤_;omega⟩
theorem aID {s:List UInt8}(hs:fit s):AN s=some (aB7 (F9 s)):=by
 have hE:AM 1 s 61=some (vD (rE 61 s)):=R1 (by decide) (by decide) s 61 hs
 have hs':=hs
 unfold fit at hs'
 unfold AN
 rw[hE,Option.bind_some]
 unfold F9
 cases hk:rE 61 s with
 |none=>rfl
 |some k=>
  have hlt:=GT s.length s k (Nat.le_refl _) hk
  show (if decide ((k:Int)<0)=true then _ else _)=_
  have ht:oV s 0 (vD (some k))=s.take k:=F0
  have hd:oV s (vD (some k)+1) (s.length:Int)=s.drop (k+1):=vP (k:=k+1)
  have he:vD (some k)=(k:Int):=rfl
  rw[ht,hd,he,if_neg (by simp<;>omega),if_pos (by omega),if_pos (by unfold i64;omega),if_pos (by omega)]
  have hlk:(s.take k).length=k:=by rw[List.length_take];omega
  rw[if_pos (fun hh=>by unfold i64;omega),if_pos (fun hh=>by simp only[beq_iff_eq,decide_eq_true_eq] at hh;omega),aB3 (s.take k) 32 32 rfl]
  have hb:(if decide ((s.take k).getLast? =some 32)=true then(if i64 ((List.length (s.take k):Int)- (1:Int)) then(if 0≤(0:Int)∧(0:Int)≤((List.length (s.take k):Int)- (1:Int))∧((List.length (s.take k):Int)- (1:Int))≤(List.length (s.take k):Int) then some (oV (s.take k) (0:Int) ((List.length (s.take k):Int)- (1:Int))) else none) else none) else some (s.take k))=some (tE 32 (s.take k)):=by
   unfold tE
   by_cases h:(s.take k).getLast? =some 32
   ·have:=a35 h
    rw[if_pos (by simpa using h),if_pos h,if_pos (by unfold i64;omega),if_pos (by omega),a38 this]
   ·rw[if_neg (by simpa using h),if_neg h]
  rw[hb]
  unfold pW
  rw[Option.bind_some,a4b,Option.bind_some,MU]
  unfold zA
  by_cases h:(s.drop (k+1)).head? =some 32
  ·have:=a36 h
   rw[if_pos (by simpa using h),if_pos (by omega),a4a,Option.map_some,if_pos h]
   rfl
  ·rw[if_neg (by simpa using h),Option.map_some,if_neg h]
   rfl
end Go.Proofs.YtfchbnahjcdiiaaGreatDoor
namespace Go.Proofs.YtfchbnahjcdiiaaGreatDoor
open Vc
set_option maxRecDepth 100000
def qB (f:Int) (k v:List UInt8) (bad:Bool):Int×List UInt8×List UInt8:=
 if f=0 then(1,[],[])
 else if f=1 then(2,[],[])
 else if f=8 then(9,[],[])
 else if bad=true then(0,[],[])
 else if f=2 then(3,[],v)
 else if f=3 then(if yB v=true then(4,[],v) else(0,[],[]))
 else if f=4 then(5,[],v)
 else if f=5 then(if 0≤qZ v then(6,[],v) else(0,[],[]))
 else if f=6 then(if qI v=true then(7,[],v) else(0,[],[]))
 else if f=7 then(if qI k=true then(8,k,v) else(0,[],[]))
 else if f=9 then(if k=[]∨200<k.length then(0,[],[]) else(10,k,v))
 else(0,[],[])
theorem aB8 {f:Int}{k v:List UInt8}(h0:f≠0) (h1:f≠1) (h8:f≠8):qB f k v true=(0,[],[]):=by
 unfold qB
 rw[if_neg h0,if_neg h1,if_neg h8,if_pos rfl]
theorem JN {k v:List UInt8}{bad:Bool}:qB 10 k v bad=(0,[],[]):=by
 unfold qB
 rw[if_neg (by decide),if_neg (by decide),if_neg (by decide)]
 split
 ·rfl
 ·rw[if_neg (by decide),if_neg (by decide),if_neg (by decide),if_neg (by decide),if_neg (by decide),if_neg (by decide),if_neg (by decide)]
theorem aIE (v:List UInt8):y7 AU v=some (decide (0≤qZ v)):=by
 unfold y7
 rw[(JC v).2]
 rfl
theorem RW {b:Bool}(h: ¬b=true):b=false:=by simpa using h
def vG (a:List UInt8):Int×List UInt8:=
 if a=[33,116,97,103] then(3,[]) else if a=[33,115,111,117,114,99,101] then(4,[]) else if a=[33,115,116,97,116,101] then(5,[]) else if a=[33,102,108,97,103] then(6,[]) else if qQ 33 58 a=true then(7,a.drop 2) else(10,[])
theorem MW {x y:UInt8}{s:List UInt8}(h:qQ x y s=true): ∃r,s=x::y::r:=by
 match s,h with
 |[],h=>exact absurd h (by simp [qQ])
 |[_],h=>exact absurd h (by simp [qQ])
 |b::c::r,h=>
  have:b=x∧c=y:=by simpa[qQ] using h
  exact⟨r,by rw[this.1,this.2]⟩
theorem aB9 {k v:List UInt8}:qB 7 k v false=if qI k=true then(8,k,v) else(0,[],[]):=rfl
theorem aCa {k v:List UInt8}:qB 9 k v false=if k=[]∨200<k.length then(0,[],[]) else(10,k,v):=rfl
theorem aIF {t v:List UInt8}:z6 (33::t) v=some (qB (vG (33::t)).1 (vG (33::t)).2 v false):=by
 unfold z6
 rw[if_neg (by simp),aA0,if_pos uB]
 have hst:y7 ([([110,101,119]:List UInt8),([102,117,122,122,121]:List UInt8),([116,114,97,110,115,108,97,116,101,100]:List UInt8),([114,101,118,105,101,119,101,100]:List UInt8),([111,98,115,111,108,101,116,101]:List UInt8)]:List (List UInt8)) v=some (decide (0≤qZ v)):=aIE v
 rw[hst,if_pos uB,QU,if_pos uB,MK,Option.bind_some,JH]
 rw[if_pos (fun hh=>by obtain⟨r,hr⟩:=MW (by simpa using hh);rw[hr];simp only[List.length_cons];omega),QU,if_pos uB]
 rw[zI,zI,zI,zI]
 by_cases h1:t=[116,97,103]
 ·subst h1;cases hT:yB v<;>simp [vG,qB,qQ,p9,hT]
 by_cases h2:t=[115,111,117,114,99,101]
 ·subst h2;simp [vG,qB]
 by_cases h3:t=[115,116,97,116,101]
 ·subst h3;by_cases hT:0≤qZ v<;>simp [vG,qB,hT,qQ,p9]
 by_cases h4:t=[102,108,97,103]
 ·subst h4;cases hT:qI v<;>simp [vG,qB,qQ,p9,hT]
 have n1: ¬(33::t:List UInt8)=[33,116,97,103]:=by simpa using h1
 have n2: ¬(33::t:List UInt8)=[33,115,111,117,114,99,101]:=by simpa using h2
 have n3: ¬(33::t:List UInt8)=[33,115,116,97,116,101]:=by simpa using h3
 have n4: ¬(33::t:List UInt8)=[33,102,108,97,103]:=by simpa using h4
 unfold vG
 rw[decide_eq_false n1,decide_eq_false n2,decide_eq_false n3,decide_eq_false n4,if_neg n1,if_neg n2,if_neg n3,if_neg n4]
 simp only[Bool.false_and,Bool.false_eq_true,if_false]
 by_cases h5:qQ 33 58 (33::t)=true
 ·obtain⟨r,hr⟩:=MW h5
  have hc:oV (33::t) 2 ((33::t).length:Int)=(33::t).drop 2:=vP (k:=2)
  rw[h5,hc,Bool.true_and,if_pos rfl]
  cases hN:qI ((33::t).drop 2) with
  |true=>
   rw[if_pos rfl,if_pos (by rw[hr];simp only[List.length_cons];omega)]
   show some ((8:Int),(33::t).drop 2,v)=some (qB 7 ((33::t).drop 2) v false)
   rw[aB9,if_pos hN]
  |false=>
   rw[if_neg Bool.false_ne_true,if_pos (by simp only[List.length_cons];omega),if_pos (by rfl)]
   show some ((0:Int),[],[])=some (qB 7 ((33::t).drop 2) v false)
   rw[aB9,if_neg (by rw[hN];exact Bool.false_ne_true)]
 ·rw[RW h5,Bool.false_and,if_neg Bool.false_ne_true,if_neg Bool.false_ne_true,if_pos (by simp only[List.length_cons];omega),if_pos (by rfl),JN]
theorem aIG {c:UInt8}{u v:List UInt8}(hc:c≠33) (hl:(c::u).length≤5000):z6 (c::u) v=some (qB 9 (tU (c::u)).1 v (!(tU (c::u)).2)):=by
 unfold z6
 have hn: ∀w:List UInt8,decide ((c::u:List UInt8)=33::w)=false:=fun w=>decide_eq_false (fun h=>hc (by injection h))
 have hb:qQ 33 58 (c::u)=false:=by
  cases h:qQ 33 58 (c::u) with
  |false=>rfl
  |true=>obtain⟨r,hr⟩:=MW h;exact absurd (by injection hr) hc
 have h33:decide (p9 (c::u) 0=33)=false:=by
  refine decide_eq_false fun h=>hc ?_
  have:(c.toNat:Int)=((33:UInt8).toNat:Int):=h
  exact AW.1 this
 rw[if_neg (by simp),aA0,if_pos uB]
 simp only[hn,Bool.false_and,Bool.false_eq_true,if_false]
 rw[if_pos (fun h=>by cases h),if_pos (fun h=>by cases h),MK,Option.bind_some,JH,hb]
 rw[if_pos (fun h=>by cases h),if_pos (fun h=>by cases h),Bool.false_and,if_neg Bool.false_ne_true,if_pos (by simp only[List.length_cons];omega),h33,if_neg Bool.false_ne_true,MV hl,Option.bind_some]
 cases hb2:(tU (c::u)).2 with
 |false=>rfl
 |true=>
  simp only[Bool.not_true,Bool.false_or,Bool.or_eq_true,decide_eq_true_eq]
  rw[aCa]
  by_cases hk:(tU (c::u)).1=[]∨200<(tU (c::u)).1.length
  ·rw[if_pos hk,if_pos (by rcases hk with h|h;exact .inl h;exact .inr (by omega))]
  ·rw[if_neg hk,if_neg (fun h=>hk (by rcases h with h|h;exact .inl h;exact .inr (by omega)))]
theorem aIH {x b:UInt8}(h:b≠x) (t:List UInt8): ∃t',tE x (b::t)=b::t':=by
 unfold tE
 split
 ·rename_i hl
  cases t with
  |nil=>simp at hl;exact absurd hl h
  |cons c r=>exact⟨(c::r).dropLast,rfl⟩
 ·exact⟨t,rfl⟩
theorem aII {x:UInt8}(b:UInt8) (t:List UInt8):tE x (b::t)=[]∨∃t',tE x (b::t)=b::t':=by
 unfold tE
 split
 ·cases t with
  |nil=>exact .inl rfl
  |cons c r=>exact .inr ⟨(c::r).dropLast,rfl⟩
 ·exact .inr ⟨t,rfl⟩
theorem aIJ {b:UInt8}{u:List UInt8}(h:rE 61 (b::u)=some 0):b=61:=by
 by_cases h1:b=61
 ·exact h1
 ·exfalso
  by_cases h2:b=92
  ·rw[a3L h1 h2] at h
   cases h3:rE 61 (u.drop 1)<;>rw[h3] at h<;>simp at h
  ·rw[a3M h1 h2] at h
   cases h3:rE 61 u<;>rw[h3] at h<;>simp at h
theorem aIK (a:List UInt8):(vG a).1≠0∧(vG a).1≠1∧(vG a).1≠8∧0≤(vG a).1∧(vG a).1≤10:=by
 unfold vG
 repeat' split
 all_goals (dsimp only;decide)
theorem aIL (a:List UInt8):(vG a).2.length≤a.length:=by
 unfold vG
 repeat' split
 all_goals simp
theorem aIM {s a v0:List UInt8}(h:AN s=some (a,v0,true)) (hv:v0.length≤5000):AR s=some ((vG a).1,(vG a).2,(tU v0).1,!(tU v0).2):=by
 unfold AR
 rw[h,Option.bind_some,if_neg (show¬(!true)=true by decide),RV hv,Option.bind_some,aB5,Option.bind_some,JH]
 unfold vG
 by_cases h1:a=[33,116,97,103]
 ·rw[if_pos (by simpa using h1),if_pos h1]
 rw[if_neg (by simpa using h1),if_neg h1]
 by_cases h2:a=[33,115,111,117,114,99,101]
 ·rw[if_pos (by simpa using h2),if_pos h2]
 rw[if_neg (by simpa using h2),if_neg h2]
 by_cases h3:a=[33,115,116,97,116,101]
 ·rw[if_pos (by simpa using h3),if_pos h3]
 rw[if_neg (by simpa using h3),if_neg h3]
 by_cases h4:a=[33,102,108,97,103]
 ·rw[if_pos (by simpa using h4),if_pos h4]
 rw[if_neg (by simpa using h4),if_neg h4]
 by_cases h5:qQ 33 58 a=true
 ·obtain⟨r,hr⟩:=MW h5
  rw[if_pos h5,if_pos h5,if_pos (by rw[hr];simp only[List.length_cons];omega)]
  rw[show oV a 2 (a.length:Int)=a.drop 2 from vP (k:=2)]
 ·rw[if_neg h5,if_neg h5]
theorem aIN {line:List UInt8}(hl:line.length≤5000): ∃(f:Int) (k v:List UInt8) (bad:Bool),zT line=some (f,k,v,bad)∧yA (RU line)=some (qB f k v bad)∧k.length≤20000∧v.length≤20000∧0≤f∧f≤10:=by
 have hcl:=aIy line
 unfold zT yA
 rw[aIA (by unfold fit;omega),Option.bind_some]
 generalize RU line=s at hcl
 have hs:s.length≤5000:=by omega
 cases s with
 |nil=>exact⟨0,[],[],false,rfl,rfl,by decide,by decide,by decide,by decide⟩
 |cons b u=>
  rw[if_neg (show¬decide ((b::u:List UInt8)=[])=true by simp),if_neg (show¬decide ((b::u:List UInt8)=[])=true by simp),aB5,Option.bind_some,MK,JH]
  by_cases hp:qQ 35 46 (b::u)=true
  ·obtain⟨r,hr⟩:=MW hp
   rw[if_pos hp,if_pos hp,hr,if_neg (show¬decide ((35::46::r:List UInt8)=[37,37])=true by simp)]
   rw[hr] at hs
   have hc2:oV (35::46::r) 2 ((35::46::r).length:Int)=r:=vP (k:=2)
   rw[if_pos (show 0≤(2:Int)∧(2:Int)≤((35::46::r).length:Int)∧((35::46::r).length:Int)≤((35::46::r).length:Int) by simp only[List.length_cons];omega),hc2,aIv]
   cases r with
   |nil=>
    refine⟨2,[],[],false,if_pos (by simp),?_,by decide,by decide,by decide,by decide⟩
    show ((zU []).bind _)=_
    rw[MV (by decide),Option.bind_some,aIB]
    rfl
   |cons c w=>
    have hb2:p9 (35::46::c::w) 2=(c.toNat:Int):=rfl
    rw[if_neg (show¬decide ((35::46::c::w:List UInt8)=[35,46])=true by simp),if_pos (show 0≤(2:Int)∧(2:Int)<((35::46::c::w).length:Int) by simp only[List.length_cons];omega),hb2]
    by_cases h32:c=32
    ·subst h32
     have hc3:oV (35::46::32::w) 3 ((35::46::32::w).length:Int)=w:=vP (k:=3)
     simp only[List.length_cons] at hs
     have hw:w.length≤5000:=by omega
     refine⟨2,[],(tU w).1,!(tU w).2,?_,?_,by decide,by have:=a4d w;omega,by decide,by decide⟩
     ·rw[if_neg (by decide),if_pos (show 0≤(3:Int)∧(3:Int)≤((35::46::32::w).length:Int)∧((35::46::32::w).length:Int)≤((35::46::32::w).length:Int) by simp only[List.length_cons];omega),hc3,RV hw]
      rfl
     ·show ((zU w).bind _)=_
      rw[MV hw,Option.bind_some]
      cases hb2:(tU w).2 with
      |false=>rfl
      |true=>rfl
    ·have hcb:zA 32 (c::w)=c::w:=by unfold zA;rw[if_neg (by simpa using h32)]
     refine⟨10,[],[],false,?_,?_,by decide,by decide,by decide,by decide⟩
     ·rw[if_pos]
      simp only[Bool.not_eq_true',decide_eq_false_iff_not]
      intro h
      exact h32 (AW.1 (show (c.toNat:Int)=((32:UInt8).toNat:Int) from h))
     ·simp only[List.length_cons] at hs
      rw[Option.bind_some,Option.bind_some]
      rw[hcb,MV (by simp only[List.length_cons];omega),Option.bind_some,JN,if_pos]
      rw[Bool.or_eq_true]
      right
      simp [h32]
  ·rw[if_neg hp,if_neg hp,a4b,Option.bind_some,MU,if_pos (show 0≤(0:Int)∧(0:Int)<((b::u).length:Int) by simp only[List.length_cons];omega)]
   by_cases h35:b=35
   ·subst h35
    refine⟨1,[],[],false,if_pos (by simp),?_,by decide,by decide,by decide,by decide⟩
    rw[if_neg (show¬decide ((35::u:List UInt8)=[37,37])=true by simp),if_pos (show decide (p9 (35::u) 0=35)=true from rfl)]
    rfl
   ·rw[if_neg (by simpa using h35),a4b,Option.bind_some,MU]
    have hbyte: ¬decide (p9 (b::u) 0=35)=true:=by
     simp only[decide_eq_true_eq]
     intro h
     exact h35 (AW.1 (show (b.toNat:Int)=((35:UInt8).toNat:Int) from h))
    rw[if_neg hbyte]
    have hfs:fit (b::u):=by unfold fit;omega
    have hE:D7 1 (b::u) 61=some (vD (rE 61 (b::u))):=by rw[aBj];exact R1 (by decide) (by decide) (b::u) 61 hfs
    rw[hE,Option.bind_some]
    by_cases hpc:(b::u:List UInt8)=[37,37]
    ·rw[hpc]
     exact⟨8,[],[],false,rfl,rfl,by decide,by decide,by decide,by decide⟩
    rw[if_neg (show¬decide ((b::u:List UInt8)=[37,37])=true by simpa using hpc),if_neg (show¬decide ((b::u:List UInt8)=[37,37])=true by simpa using hpc)]
    have hsep:=aID hfs
    cases hk:rE 61 (b::u) with
    |none=>
     have hs0:F9 (b::u)=none:=by unfold F9;rw[hk];rfl
     rw[hs0] at hsep
     refine⟨10,[],[],false,?_,?_,by decide,by decide,by decide,by decide⟩
     ·by_cases h33:b=33
      ·rw[if_pos (by simpa using h33)]
       unfold AR
       rw[hsep]
       rfl
      ·rw[if_neg (by simpa using h33),hsep]
       rfl
     ·rw[JN]
      rfl
    |some k=>
     have hlt:=GT (b::u).length (b::u) k (Nat.le_refl _) hk
     have hs1:F9 (b::u)=some (tE 32 ((b::u).take k),zA 32 ((b::u).drop (k+1))):=by unfold F9;rw[hk];rfl
     have hlen:=aIC hs1
     rw[hs1] at hsep
     have ht:oV (b::u) 0 (vD (some k))=(b::u).take k:=F0
     have hd:oV (b::u) (vD (some k)+1) ((b::u).length:Int)=(b::u).drop (k+1):=vP (k:=k+1)
     have htk:fit ((b::u).take k):=by unfold fit;rw[List.length_take];omega
     rw[Option.bind_some,ht,hd,show vD (some k)=(k:Int) from rfl,if_neg (show¬decide ((k:Int)<0)=true by simp),if_pos (show 0≤(0:Int)∧(0:Int)≤(k:Int)∧(k:Int)≤((b::u).length:Int) by omega)]
     rw[a39 htk,Option.bind_some,if_pos (show i64 ((k:Int)+1) by unfold i64;omega),if_pos (show 0≤((k:Int)+1)∧((k:Int)+1)≤((b::u).length:Int)∧((b::u).length:Int)≤((b::u).length:Int) by omega),aIu,Option.bind_some]
     have hany:tE 32 ((b::u).take k)=[]∨∃t',tE 32 ((b::u).take k)=b::t':=by
      cases k with
      |zero=>exact .inl rfl
      |succ k=>exact aII b (u.take k)
     have hbang:b=33→∃t',tE 32 ((b::u).take k)=33::t':=by
      rintro rfl
      cases k with
      |zero=>exact absurd (aIJ hk) (by decide)
      |succ k=>exact aIH (by decide) _
     generalize tE 32 ((b::u).take k)=a at hsep hlen hany hbang⊢
     generalize zA 32 ((b::u).drop (k+1))=v0 at hsep hlen⊢
     dsimp only at hlen
     have hv0:v0.length≤5000:=by omega
     have hlv:=a4d v0
     rw[MV hv0,Option.bind_some]
     by_cases h33:b=33
     ·obtain⟨t',rfl⟩:=hbang h33
      have hf:=aIK (33::t')
      have hk2:=aIL (33::t')
      refine⟨(vG (33::t')).1,(vG (33::t')).2,(tU v0).1,!(tU v0).2,?_,?_,by omega,by omega,hf.2.2.2.1,hf.2.2.2.2⟩
      ·rw[if_pos (by simpa using h33),aIM hsep hv0]
       rfl
      ·cases hb2:(tU v0).2 with
       |false=>rw[if_pos (by rfl),show (!false)=true from rfl,aB8 hf.1 hf.2.1 hf.2.2.1]
       |true=>
        rw[if_neg (by decide),aIF,Option.bind_some]
        rfl
     ·rw[if_neg (by simpa using h33),hsep,Option.bind_some]
      rcases hany with rfl|⟨t',rfl⟩
      ·refine⟨10,[],[],false,rfl,?_,by decide,by decide,by decide,by decide⟩
       rw[JN]
       cases hb2:(tU v0).2 with
       |false=>rfl
       |true=>rw[if_neg (by decide),show z6 [] (tU v0).1=some (0,[],[]) by unfold z6;rfl];rfl
      ·have ha:(b::t').length≤5000:=by omega
       have hla:=a4d (b::t')
       refine⟨9,(tU (b::t')).1,(tU v0).1,(!(tU (b::t')).2)||(!(tU v0).2),?_,?_,by omega,by omega,by decide,by decide⟩
       ·unfold aB7
        dsimp only
        rw[if_neg (by simp),RV ha,Option.bind_some,RV hv0,Option.bind_some]
       ·cases hb2:(tU v0).2 with
        |false=>rw[if_pos (by rfl),show (!false)=true from rfl,Bool.or_true,aB8 (by decide) (by decide) (by decide)]
        |true=>
         rw[if_neg (by decide),aIG h33 ha,Option.bind_some,show (!true)=false from rfl,Bool.or_false]
end Go.Proofs.YtfchbnahjcdiiaaGreatDoor
namespace Go.Proofs.YtfchbnahjcdiiaaGreatDoor
open Vc
set_option maxRecDepth 100000
theorem aIO {s:List UInt8}{a i:Nat}(hai:a≤i) (hi:i<s.length) (hno: ∀j (h:j<s.length),a≤j→j<i→s[j]≠10) (h10:s[i]=10):((s.drop a).findIdx? fun b=>decide (b=10))=some (i-a):=by
  rw[List.findIdx?_eq_some_iff_getElem]
  refine⟨by rw[List.length_drop];omega,?_,fun j hj=> ?_⟩
  · rw[List.getElem_drop]
    simp only[decide_eq_true_eq]
    rw[←h10]
    congr 1
    omega
  · rw[List.getElem_drop]
    simp only[decide_eq_true_eq]
    exact hno (a+j) (by omega) (by omega) (by omega)
theorem aIP {s:List UInt8}{a:Nat}(hno: ∀j (h:j<s.length),a≤j→s[j]≠10):((s.drop a).findIdx? fun b=>decide (b=10))=none:=by
  rw[List.findIdx?_eq_none_iff]
  intro x hx
  obtain⟨j,hj,rfl⟩:=List.getElem_of_mem hx
  rw[List.getElem_drop]
  simp only[decide_eq_false_iff_not]
  rw[List.length_drop] at hj
  exact hno (a+j) (by omega) (by omega)
theorem aIQ {s:List UInt8}{a i:Nat}(hai:a≤i) (hi:i<s.length) (hno: ∀j (h:j<s.length),a≤j→j<i→s[j]≠10) (h10:s[i]=10):sF s a=i+1:=by
  unfold sF
  rw[RC,aIO hai hi hno h10]
  rw[show vD (some (i-a))=((i-a:Nat):Int) from rfl,if_pos (by omega),Int.toNat_natCast]
  omega
theorem aIR {s:List UInt8}{a:Nat}(hno: ∀j (h:j<s.length),a≤j→s[j]≠10):sF s a=s.length:=by
  unfold sF
  rw[RC,aIP hno]
  exact if_neg (by decide)
theorem RX {s:List UInt8}{n i:Nat}(h:s.length≤i):sN s n i=[]:=by
  cases n with
  |zero=>rfl
  |succ n=>rw[sN,if_neg (by omega)]
theorem aCb {s:List UInt8}{a b:Nat}:oV s (a:Int) (b:Int)=(s.drop a).take (b-a):=by
  unfold oV
  rw[Int.toNat_natCast,Int.toNat_natCast]
def aCc (s:List UInt8) (q:List (List UInt8)×Int):Option (List (List UInt8)):=
  if (decide (q.2<(List.length s:Int)))=true then
   if 0≤q.2∧q.2≤(List.length s:Int)∧(List.length s:Int)≤(List.length s:Int) then
    if (List.length q.1+List.length ([(oV s q.2 (List.length s:Int))]:List (List UInt8)))*16≤140737488355328 then
     some ((q.1++([(oV s q.2 (List.length s:Int))]:List (List UInt8))))
    else none
   else none
  else
   some (q.1)
theorem a4e {s:List UInt8}(hs:s.length≤100000): ∀(m i a n:Nat) (out:List (List UInt8)),i+m=s.length→a≤i→s.length≤n+a→out.length≤a→(∀j (h:j<s.length),a≤j→j<i→s[j]≠10)→
    pW (pF (EB s) (out,(a:Int),(i:Int))) (aCc s)=some (out++(sN s n a).map (·.2))
  | 0,i,a,n,out,hm,hai,hn,ho,hno=>by
    have:i=s.length:=by omega
    subst this
    rw[tH (r:=(out,(a:Int))) (by unfold EB;dsimp only;rw[if_neg (wH _)])]
    unfold pW aCc
    rw[Option.bind_some]
    dsimp only
    by_cases ha:a<s.length
    · obtain⟨n,rfl⟩: ∃n',n=n'+1:=⟨n-1,by omega⟩
      have hlt:=aIR (s:=s) (a:=a) (fun j h h1=>hno j h h1 h)
      rw[if_pos (by simpa using ha),if_pos (by omega),if_pos (by simp only[List.length_cons,List.length_nil];omega),sN,if_pos ha,hlt,RX (Nat.le_refl _),aCb]
      rfl
    ·rw[if_neg (by simp;omega),RX (by omega),List.map_nil,List.append_nil]
  | m+1,i,a,n,out,hm,hai,hn,ho,hno=>by
    have hi:i<s.length:=by omega
    by_cases h10:s[i]=10
    · have hst:EB s (out,(a:Int),(i:Int))=some (.inl (out++[(s.drop a).take (i+1-a)],((i+1:Nat):Int),((i+1:Nat):Int))):=by
        unfold EB
        dsimp only
        rw[if_pos (sH hi),if_pos (qD hi),uI hi,h10,if_pos (by rfl),if_pos (qW (by omega)),if_pos (by omega),if_pos (by simp only[List.length_cons,List.length_nil];omega)]
        rw[show ((i:Int)+1)=((i+1:Nat):Int) by omega,aCb,if_pos (show i64 ((i+1:Nat):Int) by unfold i64;omega),if_pos (show i64 ((i+1:Nat):Int) by unfold i64;omega)]
      have hlt:=aIQ hai hi hno h10
      obtain⟨n,rfl⟩: ∃n',n=n'+1:=⟨n-1,by omega⟩
      rw[CF hst,a4e hs m (i+1) (i+1) n _ (by omega) (Nat.le_refl _) (by omega) (by simp;omega) (fun j h h1 h2=>by omega),sN,if_pos (by omega),hlt]
      simp
    · have hst:EB s (out,(a:Int),(i:Int))=some (.inl (out,(a:Int),((i+1:Nat):Int))):=by
        unfold EB
        dsimp only
        rw[if_pos (sH hi),if_pos (qD hi),uI hi,if_neg (by simp only[decide_eq_true_eq];intro h;exact h10 (AW.1 (show (s[i].toNat:Int)=((10:UInt8).toNat:Int) from h))),if_pos (qW (by omega))]
        rfl
      rw[CF hst,a4e hs m (i+1) a n out (by omega) (by omega) hn ho (fun j h h1 h2=>by
        by_cases hj:j=i
        ·subst hj;exact h10
        ·exact hno j h h1 (by omega))]
theorem aIS {s:List UInt8}(hs:s.length≤100000):EC s=some ((tC s).map (·.2)):=by
  have h:=a4e hs s.length 0 0 s.length [] (by omega) (Nat.le_refl _) (by omega) (Nat.le_refl _) (fun j h h1 h2=>by omega)
  unfold EC
  exact h
end Go.Proofs.YtfchbnahjcdiiaaGreatDoor
namespace Go.Proofs.YtfchbnahjcdiiaaGreatDoor
open Vc
set_option maxRecDepth 100000
theorem BX {v:Ty}(a b:Int) (y:v.den): ∀l:List (Int×v.den),mget (.int .i64) v (qK (.int .i64) v a y l) b=if b=a then y else mget (.int .i64) v l b
 |[]=>by
  show (if decide (b=a)=true then y else v.zero)=if b=a then y else v.zero
  by_cases h:b=a<;>simp [h]
 |(x,z)::r=>by
  have ih:=BX a b y r
  show mget (.int .i64) v (if decide (a=x)=true then(a,y)::r else(x,z)::qK (.int .i64) v a y r) b=if b=a then y else(if decide (b=x)=true then z else mget (.int .i64) v r b)
  by_cases h:a=x
  ·rw[if_pos (decide_eq_true h)]
   show (if decide (b=a)=true then y else mget (.int .i64) v r b)=_
   by_cases hb:b=a
   ·rw[if_pos (decide_eq_true hb),if_pos hb]
   ·rw[if_neg (by simpa using hb),if_neg hb,if_neg (by rw[←h];simpa using hb)]
  ·rw[if_neg (by simpa using h)]
   show (if decide (b=x)=true then z else mget (.int .i64) v (qK (.int .i64) v a y r) b)=_
   rw[ih]
   by_cases hb:b=a
   ·rw[if_pos hb,if_pos hb,if_neg (by rw[hb];simpa using h)]
   ·rw[if_neg hb,if_neg hb]
def AllT (l:List (List UInt8×Bool)):Prop:= ∀p∈l,p.2=true
theorem aCd {a:List UInt8}: ∀{l:List (List UInt8×Bool)},AllT l→mget .str .bool l a=false→qK .str .bool a true l=l++[(a,true)]
 |[],_,_=>rfl
 |(x,z)::r,h,hg=>by
  have hz:z=true:=h (x,z) List.mem_cons_self
  have hg':(if decide (a=x)=true then z else mget .str .bool r a)=false:=hg
  show (if decide (a=x)=true then(a,true)::r else(x,z)::qK .str .bool a true r)=_
  by_cases hx:a=x
  ·rw[if_pos (decide_eq_true hx),hz] at hg';cases hg'
  ·rw[if_neg (by simpa using hx)] at hg'⊢
   rw[aCd (fun p hp=>h p (List.mem_cons_of_mem _ hp)) hg']
   rfl
theorem aCe {l:List (List UInt8×Bool)}{a:List UInt8}(h:AllT l) (hg:mget .str .bool l a=false):AllT (qK .str .bool a true l)∧(qK .str .bool a true l).length=l.length+1:=by
 rw[aCd h hg]
 refine⟨fun p hp=> ?_,by simp⟩
 rcases List.mem_append.1 hp with hp|hp
 ·exact h p hp
 ·rw[List.mem_singleton.1 hp]
structure BI (cm:List (List UInt8)) (fl:List (List UInt8)) (fd:List Fld) (once:List (Int×Bool)) (fm dm:List (List UInt8×Bool)) (hs ht:Bool):Prop where
 c:cm.length≤20
 f:fl.length≤20
 d:fd.length≤20
 o5:mget (.int .i64) .bool once 5=hs
 o6:mget (.int .i64) .bool once 6=ht
 g1: ∀x,mget .str .bool fm x=fl.any fun y=>decide (y=x)
 g1t:AllT fm
 g1n:fm.length=fl.length
 g2: ∀x,mget .str .bool dm x=fd.any fun y=>decide (y.1=x)
 g2t:AllT dm
 g2n:dm.length=fd.length
theorem a4f:BI [] [] [] [] [] [] false false:=⟨by decide,by decide,by decide,rfl,rfl,fun _=>rfl,fun _ h=>by(cases h),rfl,fun _=>rfl,fun _ h=>by(cases h),rfl⟩
theorem aIT (l:List (List UInt8)) (s:List UInt8) (hl:fit l):GB l s=some (l.any fun x=>decide (x=s)):=by
 unfold fit at hl
 have h:=AH (f:=LH l s) (l:=l) (fun x=>decide (x=s)) (fun _=>true) (fun i h=>by
  unfold LH
  rw[if_pos (sH h),if_pos (qD h),vO (t:= .str) h,if_pos (qW (by omega))]) (by
  unfold LH
  rw[if_neg (wH _)])
 unfold GB
 rw[h,BN,QV]
theorem aCf {l:List (List UInt8)}{x:List UInt8}(hl:fit l): ∀(n j:Nat),j+n=l.length→pF (GC l x) (j:Int)=some ((j+((l.drop j).findIdx? fun y=> !Op.bytesLess y x).getD n:Nat):Int)
 |0,j,hj=>by
  have:j=l.length:=by omega
  subst this
  rw[List.drop_length]
  refine tH ?_
  unfold GC
  rw[if_pos (fun hh=>by simp at hh),if_neg (by simp)]
  rfl
 |n+1,j,hj=>by
  have hlt:j<l.length:=by omega
  unfold fit at hl
  have hst:GC l x (j:Int)=if Op.bytesLess l[j] x=true then some (.inl ((j+1:Nat):Int)) else some (.inr (j:Int)):=by
   unfold GC
   rw[if_pos (fun _=>qD hlt),vO (t:= .str) hlt,sH hlt,Bool.true_and,if_pos (qW (by omega))]
   rfl
  rw[List.drop_eq_getElem_cons hlt,List.findIdx?_cons]
  cases hb:Op.bytesLess l[j] x with
  |true=>
   rw[CF (hst.trans (if_pos hb)),aCf hl n (j+1) (by omega)]
   simp only[Bool.not_true,Bool.false_eq_true,if_false]
   cases(l.drop (j+1)).findIdx? fun y=> !Op.bytesLess y x with
   |none=>simp;omega
   |some q=>simp;omega
  |false=>
   rw[tH (hst.trans (if_neg (by rw[hb];exact Bool.false_ne_true)))]
   simp
theorem aIU {l:List (List UInt8)}(hl:fit l) (x:List UInt8):EJ l x=some (F4 l x):=by
 have h:=aCf (x:=x) hl l.length 0 (by omega)
 have hl':=hl
 unfold fit at hl'
 have hk:=aBL l x
 rw[List.drop_zero,Nat.zero_add] at h
 have h2:pF (GC l x) (0:Int)=some ((uL l x:Nat):Int):=h
 unfold EJ
 rw[h2]
 unfold pW
 rw[Option.bind_some,if_pos (by omega),F0,vP]
 have ht:(l.take (uL l x)).length=uL l x:=by rw[List.length_take];omega
 have hd:(l.drop (uL l x)).length=l.length-uL l x:=List.length_drop
 rw[if_pos (by rw[ht];simp only[List.length_nil];omega),if_pos (by simp only[List.nil_append,List.length_cons,List.length_nil];rw[ht];omega),if_pos (by omega),if_pos (by simp only[List.nil_append,List.length_append,List.length_cons,List.length_nil];rw[ht,hd];omega)]
 rfl
theorem aIV {l:List Fld}{n v:List UInt8}(h:(l.any fun y=>decide (y.1=n))=false):(xL l n v).length=l.length+1∧∀x,((xL l n v).any fun y=>decide (y.1=x))=(decide (n=x)||l.any fun y=>decide (y.1=x)):=by
 have hk:xK l n=none:=by
  unfold xK
  have:=a3v (p:=fun y:Fld=>decide (y.1=n)) (l:=l)
  rw[h] at this
  cases hf:l.findIdx? fun y=>decide (y.1=n) with
  |none=>rfl
  |some k=>rw[hf] at this;cases this
 have he:xL l n v=l.take (AV l n)++[(n,v,())]++l.drop (AV l n):=by unfold xL;rw[hk];rfl
 have hle:=a3y l n
 rw[he]
 refine⟨by simp;omega,fun x=> ?_⟩
 have ha:(l.any fun y=>decide (y.1=x))=((l.take (AV l n)).any (fun y=>decide (y.1=x))||(l.drop (AV l n)).any fun y=>decide (y.1=x)):=by
  rw[←List.any_append,List.take_append_drop]
 rw[List.any_append,List.any_append,ha]
 simp only[List.any_cons,List.any_nil,Bool.or_false]
 cases(l.take (AV l n)).any (fun y=>decide (y.1=x))<;>cases decide (n=x)<;>rfl
section
variable {cm:List (List UInt8)}{fl:List (List UInt8)}{fd:List Fld}{once:List (Int×Bool)}{fm dm:List (List UInt8×Bool)}{hs ht:Bool}(h:BI cm fl fd once fm dm hs ht)
variable {src x1 x2 a1 a2:List UInt8}{a3:List (List UInt8)}{st op op':Int}{k v:List UInt8}{bad:Bool}(hk:k.length≤20000) (hv:v.length≤20000)
def GZ (cm:List (List UInt8)) (fl:List (List UInt8)) (fd:List Fld) (once:List (Int×Bool)) (fm dm:List (List UInt8×Bool)) (hs ht:Bool) (src x1 x2 a1 a2:List UInt8) (a3:List (List UInt8)) (st op op':Int) (f:Int) (k v:List UInt8) (bad:Bool):Prop:=
 ((qB f k v bad).1=0∧∃r,sL ((x1,(src,(x2,(cm,(qH fl,(st,(fd,()))))))),(hs,(ht,(op',())))) (f,(k,(v,(bad,()))))=some r∧r.2.2.2.2.2.2.2=3)∨
 ((qB f k v bad).1=f+1∧∃e cm' src' st' fd' once' fm' dm' fl' hs' ht',rX cm a1 src a2 a3 (st,(fd,())) (op,()) ((qB f k v bad).1,((qB f k v bad).2.1,((qB f k v bad).2.2,()))) once fm dm fl=some (e,cm',src',st',fd',once',fm',dm',fl')∧
  sL ((x1,(src,(x2,(cm,(qH fl,(st,(fd,()))))))),(hs,(ht,(op',())))) (f,(k,(v,(bad,()))))=some (src',cm',qH fl',st',fd',hs',ht',e)∧BI cm' fl' fd' once' fm' dm' hs' ht'∧mget (.int .i64) .bool once' 4=mget (.int .i64) .bool once 4)
include h
theorem aCg:GZ cm fl fd once fm dm hs ht src x1 x2 a1 a2 a3 st op op' 2 k v bad:=by
 cases bad with
 |true=>exact .inl ⟨rfl,(src,cm,qH fl,st,fd,hs,ht,3),by unfold sL;dsimp only;rw[if_pos (show decide ((2:Int)=2)=true from rfl),if_pos rfl],rfl⟩
 |false=>
  refine .inr ⟨rfl,?_⟩
  rw[show qB 2 k v false=(3,[],v) from rfl]
  unfold sL rX
  dsimp only
  have hc:=h.c
  rw[if_pos (show decide ((2:Int)=2)=true from rfl),if_neg Bool.false_ne_true,if_pos (show decide ((3:Int)=3)=true from rfl)]
  by_cases h20:cm.length=20
  ·rw[if_pos (by simp;omega),if_pos (by simp;omega)]
   exact⟨_,_,_,_,_,_,_,_,_,_,_,rfl,rfl,h,rfl⟩
  ·rw[if_neg (show¬decide ((cm.length:Int)=20)=true by simp;omega),if_pos (by simp only[List.length_cons,List.length_nil];omega),if_neg (show¬decide ((20:Int)≤(cm.length:Int))=true by simp;omega),if_pos (by simp only[List.length_nil];omega),if_pos (by simp only[List.nil_append,List.length_cons,List.length_nil];omega)]
   exact⟨_,_,_,_,_,_,_,_,_,_,_,rfl,rfl,⟨by simp;omega,h.f,h.d,h.o5,h.o6,h.g1,h.g1t,h.g1n,h.g2,h.g2t,h.g2n⟩,rfl⟩
theorem aIW:GZ cm fl fd once fm dm hs ht src x1 x2 a1 a2 a3 st op op' 4 k v bad:=by
 cases bad with
 |true=>exact .inl ⟨rfl,(src,cm,qH fl,st,fd,hs,ht,3),by unfold sL;dsimp only;rw[if_neg (show¬decide ((4:Int)=2)=true by decide),if_pos (show decide ((4:Int)=4)=true from rfl),if_pos rfl],rfl⟩
 |false=>
  refine .inr ⟨rfl,?_⟩
  rw[show qB 4 k v false=(5,[],v) from rfl]
  unfold sL rX
  dsimp only
  rw[if_neg (show¬decide ((4:Int)=2)=true by decide),if_pos (show decide ((4:Int)=4)=true from rfl),if_neg Bool.false_ne_true,if_neg (show¬decide ((5:Int)=3)=true by decide),if_neg (show¬decide ((5:Int)=4)=true by decide),if_pos (show decide ((5:Int)=5)=true from rfl)]
  unfold pW
  rw[Option.bind_some]
  rw[if_pos (show decide ((5:Int)=5)=true from rfl),h.o5]
  cases hs with
  |true=>
   rw[if_pos rfl,if_pos rfl]
   exact⟨_,_,_,_,_,_,_,_,_,_,_,rfl,rfl,h,rfl⟩
  |false=>
   rw[if_neg Bool.false_ne_true,if_neg Bool.false_ne_true,if_pos (show decide ((5:Int)=5)=true from rfl)]
   refine⟨_,_,_,_,_,_,_,_,_,_,_,rfl,rfl,⟨h.c,h.f,h.d,?_,?_,h.g1,h.g1t,h.g1n,h.g2,h.g2t,h.g2n⟩,?_⟩
   ·rw[BX,if_pos rfl]
   ·rw[BX,if_neg (by decide)];exact h.o6
   ·rw[BX,if_neg (by decide)]
theorem aIX:GZ cm fl fd once fm dm hs ht src x1 x2 a1 a2 a3 st op op' 5 k v bad:=by
 cases bad with
 |true=>exact .inl ⟨rfl,(src,cm,qH fl,st,fd,hs,ht,3),by unfold sL;dsimp only;rw[if_neg (show¬decide ((5:Int)=2)=true by decide),if_neg (show¬decide ((5:Int)=4)=true by decide),if_pos (show decide ((5:Int)=5)=true from rfl),if_pos (fun hh=>by cases hh)];rfl,rfl⟩
 |false=>
  by_cases hst:0≤qZ v
  ·have hp:qB 5 k v false=(6,[],v):=by
    show (if 0≤qZ v then((6:Int),([]:List UInt8),v) else(0,[],[]))=_
    rw[if_pos hst]
   refine .inr ⟨by rw[hp];rfl,?_⟩
   rw[hp]
   unfold sL rX
   dsimp only
   rw[if_neg (show¬decide ((5:Int)=2)=true by decide),if_neg (show¬decide ((5:Int)=4)=true by decide),if_pos (show decide ((5:Int)=5)=true from rfl),QW,if_pos uB,zI,Bool.false_or,if_neg (show¬decide (qZ v<0)=true by simp;omega)]
   rw[if_neg (show¬decide ((6:Int)=3)=true by decide),if_neg (show¬decide ((6:Int)=4)=true by decide),if_neg (show¬decide ((6:Int)=5)=true by decide)]
   unfold pW
   rw[Option.bind_some]
   rw[if_pos (show decide ((6:Int)=6)=true from rfl),h.o6]
   cases ht with
   |true=>
    rw[if_pos rfl,if_pos rfl]
    exact⟨_,_,_,_,_,_,_,_,_,_,_,rfl,rfl,h,rfl⟩
   |false=>
    rw[if_neg Bool.false_ne_true,if_neg Bool.false_ne_true,if_neg (show¬decide ((6:Int)=5)=true by decide),if_pos (show decide ((6:Int)=6)=true from rfl)]
    rw[show xG ([([110,101,119]:List UInt8),([102,117,122,122,121]:List UInt8),([116,114,97,110,115,108,97,116,101,100]:List UInt8),([114,101,118,105,101,119,101,100]:List UInt8),([111,98,115,111,108,101,116,101]:List UInt8)]:List (List UInt8)) v=some (qZ v) from(JC v).2,Option.bind_some,Option.bind_some]
    refine⟨_,_,_,_,_,_,_,_,_,_,_,rfl,rfl,⟨h.c,h.f,h.d,?_,?_,h.g1,h.g1t,h.g1n,h.g2,h.g2t,h.g2n⟩,?_⟩
    ·rw[BX,if_neg (by decide)];exact h.o5
    ·rw[BX,if_pos rfl]
    ·rw[BX,if_neg (by decide)]
  ·have hp:qB 5 k v false=(0,[],[]):=by
    show (if 0≤qZ v then((6:Int),([]:List UInt8),v) else(0,[],[]))=_
    rw[if_neg hst]
   refine .inl ⟨by rw[hp],(src,cm,qH fl,st,fd,hs,ht,3),?_,?_⟩
   ·unfold sL
    dsimp only
    rw[if_neg (show¬decide ((5:Int)=2)=true by decide),if_neg (show¬decide ((5:Int)=4)=true by decide),if_pos (show decide ((5:Int)=5)=true from rfl),QW,if_pos uB,zI,Bool.false_or,if_pos (show decide (qZ v<0)=true by simp;omega)]
   ·rfl
include hv
theorem aIY:GZ cm fl fd once fm dm hs ht src x1 x2 a1 a2 a3 st op op' 6 k v bad:=by
 have hfv:fit v:=by unfold fit;omega
 have hff:=h.f
 cases bad with
 |true=>exact .inl ⟨rfl,(src,cm,qH fl,st,fd,hs,ht,3),by unfold sL;dsimp only;rw[if_neg (show¬decide ((6:Int)=2)=true by decide),if_neg (show¬decide ((6:Int)=4)=true by decide),if_neg (show¬decide ((6:Int)=5)=true by decide),if_pos (show decide ((6:Int)=6)=true from rfl),if_pos (fun hh=>by cases hh)];rfl,rfl⟩
 |false=>
  cases hN:qI v with
  |true=>
   have hp:qB 6 k v false=(7,[],v):=by
    show (if qI v=true then((7:Int),([]:List UInt8),v) else(0,[],[]))=_
    rw[if_pos hN]
   refine .inr ⟨by rw[hp];rfl,?_⟩
   rw[hp]
   unfold sL rX
   dsimp only
   have hfl:fit (qH fl):=by unfold fit;rw[DI];omega
   rw[if_neg (show¬decide ((6:Int)=2)=true by decide),if_neg (show¬decide ((6:Int)=4)=true by decide),if_neg (show¬decide ((6:Int)=5)=true by decide),if_pos (show decide ((6:Int)=6)=true from rfl),JB v hfv,if_pos uB,zI,hN,if_neg (show¬(false|| !true)=true by decide),aIT _ _ hfl,Option.bind_some,aBT,DI]
   rw[if_neg (show¬decide ((7:Int)=3)=true by decide),if_neg (show¬decide ((7:Int)=4)=true by decide),if_neg (show¬decide ((7:Int)=5)=true by decide)]
   unfold pW
   rw[Option.bind_some,if_neg (show¬decide ((7:Int)=6)=true by decide),if_pos (show decide ((7:Int)=7)=true from rfl),h.g1,h.g1n]
   by_cases ha:(fl.any fun y=>decide (y=v))=true
   ·rw[if_pos ha,if_pos ha]
    exact⟨_,_,_,_,_,_,_,_,_,_,_,rfl,rfl,h,rfl⟩
   ·rw[if_neg ha,if_neg ha]
    by_cases h20:fl.length=20
    ·rw[if_pos (by simp;omega),if_pos (by simp;omega)]
     exact⟨_,_,_,_,_,_,_,_,_,_,_,rfl,rfl,h,rfl⟩
    ·rw[if_neg (show¬decide ((fl.length:Int)=20)=true by simp;omega),if_pos (by simp only[List.length_cons,List.length_nil];omega),if_neg (show¬decide ((20:Int)≤(fl.length:Int))=true by simp;omega),aIU hfl,Option.bind_some,aBU]
     have hg:mget .str .bool fm v=false:=by rw[h.g1];exact RW ha
     have hadd:=aCe h.g1t hg
     refine⟨_,_,_,_,_,_,_,_,_,_,_,rfl,rfl,⟨h.c,by simp;omega,h.d,h.o5,h.o6,fun x=> ?_,hadd.1,by rw[hadd.2,h.g1n];simp,h.g2,h.g2t,h.g2n⟩,rfl⟩
     rw[z8,h.g1,List.any_append]
     by_cases hx:x=v
     ·rw[if_pos hx,hx];simp
     ·rw[if_neg hx]
      have:decide (v=x)=false:=decide_eq_false fun hh=>hx hh.symm
      simp [this]
  |false=>
   have hp:qB 6 k v false=(0,[],[]):=by
    show (if qI v=true then((7:Int),([]:List UInt8),v) else(0,[],[]))=_
    rw[if_neg (by rw[hN];exact Bool.false_ne_true)]
   refine .inl ⟨by rw[hp],(src,cm,qH fl,st,fd,hs,ht,3),?_,?_⟩
   ·unfold sL
    dsimp only
    rw[if_neg (show¬decide ((6:Int)=2)=true by decide),if_neg (show¬decide ((6:Int)=4)=true by decide),if_neg (show¬decide ((6:Int)=5)=true by decide),if_pos (show decide ((6:Int)=6)=true from rfl),JB v hfv,if_pos uB,zI,hN,if_pos (show (false|| !false)=true by decide)]
   ·rfl
omit hv
include hk
theorem aCh:GZ cm fl fd once fm dm hs ht src x1 x2 a1 a2 a3 st op op' 7 k v bad:=by
 have hfk:fit k:=by unfold fit;omega
 have hfd:=h.d
 have hfit:fit fd:=by unfold fit;omega
 cases bad with
 |true=>exact .inl ⟨rfl,(src,cm,qH fl,st,fd,hs,ht,3),by unfold sL;dsimp only;rw[if_neg (show¬decide ((7:Int)=2)=true by decide),if_neg (show¬decide ((7:Int)=4)=true by decide),if_neg (show¬decide ((7:Int)=5)=true by decide),if_neg (show¬decide ((7:Int)=6)=true by decide),if_pos (show decide ((7:Int)=7)=true from rfl),if_pos (fun hh=>by cases hh)];rfl,rfl⟩
 |false=>
  cases hN:qI k with
  |true=>
   have hp:qB 7 k v false=(8,k,v):=by
    show (if qI k=true then((8:Int),k,v) else(0,[],[]))=_
    rw[if_pos hN]
   refine .inr ⟨by rw[hp];rfl,?_⟩
   rw[hp]
   unfold sL rX
   dsimp only
   rw[if_neg (show¬decide ((7:Int)=2)=true by decide),if_neg (show¬decide ((7:Int)=4)=true by decide),if_neg (show¬decide ((7:Int)=5)=true by decide),if_neg (show¬decide ((7:Int)=6)=true by decide),if_pos (show decide ((7:Int)=7)=true from rfl),JB k hfk,if_pos uB,zI,hN,if_neg (show¬(false|| !true)=true by decide),aA3 _ _ hfit,Option.bind_some,a3w]
   rw[if_neg (show¬decide ((8:Int)=3)=true by decide),if_neg (show¬decide ((8:Int)=4)=true by decide),if_neg (show¬decide ((8:Int)=5)=true by decide)]
   unfold pW
   rw[Option.bind_some,if_neg (show¬decide ((8:Int)=6)=true by decide),if_neg (show¬decide ((8:Int)=7)=true by decide),if_pos (show decide ((8:Int)=8)=true from rfl),h.g2,h.g2n]
   by_cases ha:(fd.any fun y=>decide (y.1=k))=true
   ·rw[if_pos ha,if_pos ha]
    exact⟨_,_,_,_,_,_,_,_,_,_,_,rfl,rfl,h,rfl⟩
   ·rw[if_neg ha,if_neg ha]
    by_cases h20:fd.length=20
    ·rw[if_pos (by simp;omega),if_pos (by simp;omega)]
     exact⟨_,_,_,_,_,_,_,_,_,_,_,rfl,rfl,h,rfl⟩
    ·rw[if_neg (by simp;omega),if_neg (by simp;omega),a3A _ _ _ hfit,a3z _ _ _ hfit,Option.bind_some,Option.bind_some]
     have hg:mget .str .bool dm k=false:=by rw[h.g2];exact RW ha
     have hadd:=aCe h.g2t hg
     have hset:=aIV (v:=v) (RW ha)
     refine⟨_,_,_,_,_,_,_,_,_,_,_,rfl,rfl,⟨h.c,h.f,by rw[hset.1];omega,h.o5,h.o6,h.g1,h.g1t,h.g1n,fun x=> ?_,hadd.1,by rw[hadd.2,h.g2n,hset.1]⟩,rfl⟩
     rw[z8,h.g2,hset.2 x]
     by_cases hx:x=k
     ·rw[if_pos hx,hx];simp
     ·rw[if_neg hx,decide_eq_false fun hh=>hx hh.symm,Bool.false_or]
  |false=>
   have hp:qB 7 k v false=(0,[],[]):=by
    show (if qI k=true then((8:Int),k,v) else(0,[],[]))=_
    rw[if_neg (by rw[hN];exact Bool.false_ne_true)]
   refine .inl ⟨by rw[hp],(src,cm,qH fl,st,fd,hs,ht,3),?_,?_⟩
   ·unfold sL
    dsimp only
    rw[if_neg (show¬decide ((7:Int)=2)=true by decide),if_neg (show¬decide ((7:Int)=4)=true by decide),if_neg (show¬decide ((7:Int)=5)=true by decide),if_neg (show¬decide ((7:Int)=6)=true by decide),if_pos (show decide ((7:Int)=7)=true from rfl),JB k hfk,if_pos uB,zI,hN,if_pos (show (false|| !false)=true by decide)]
   ·rfl
end
end Go.Proofs.YtfchbnahjcdiiaaGreatDoor
namespace Go.Proofs.YtfchbnahjcdiiaaGreatDoor
open Vc
set_option maxRecDepth 100000
abbrev PS:=(List UInt8)×(List (List UInt8))×(List p8)×(List dT1)×Bool×(List Int)×(List (List UInt8))×(List UInt8)×(List UInt8)×(List UInt8)×(List (List UInt8))×Int×(List p8)×Int×(List ((List UInt8)×Bool))×(List (Int×Bool))×(List ((List UInt8)×Bool))×(List ((List UInt8)×Bool))×(List (List UInt8))
def xP (tag:List UInt8) (cms:List (List UInt8)) (fds:List Fld) (es:List dT1) (inside:Bool) (ends:List Int) (cm:List (List UInt8)) (src:List UInt8) (st:Int) (fd:List Fld) (op:Int) (ids:List (List UInt8×Bool)) (once:List (Int×Bool)) (fm dm:List (List UInt8×Bool)) (fl:List (List UInt8)):PS:=
  (tag,cms,fds,es,inside,ends,cm,[],src,[],[],st,fd,op,ids,once,fm,dm,fl)
abbrev RS:=(List Int)×Int×Int×(List UInt8)×(List (List UInt8))×(List p8)×(List dT1)×(List UInt8)×(List UInt8)×(List UInt8)×(List (List UInt8))×(List (List UInt8))×Int×(List p8)×Bool×Bool×Int
noncomputable def DJ (it:Int×List UInt8) (b:PS):Option (Int×PS):=
 (zR it.2 ([10]:List UInt8)).bind fun r1=>
 (yA (Lib.trimLeftS r1 ([32,9]:List UInt8))).bind fun r=>
 if b.2.2.2.2.1=true then
  if i64 (it.1+(List.length it.2:Int)) then
   (rY (b.1,(b.2.1,(b.2.2.1,(b.2.2.2.1,())))) b.2.2.2.2.1 (b.2.2.2.2.2.1,()) (r.1,(r.2.1,(r.2.2,()))) it.1 (it.1+(List.length it.2:Int)) b.2.2.2.2.2.2.1 b.2.2.2.2.2.2.2.1 b.2.2.2.2.2.2.2.2.1 b.2.2.2.2.2.2.2.2.2.1 b.2.2.2.2.2.2.2.2.2.2.1 (b.2.2.2.2.2.2.2.2.2.2.2.1,(b.2.2.2.2.2.2.2.2.2.2.2.2.1,())) (b.2.2.2.2.2.2.2.2.2.2.2.2.2.1,()) b.2.2.2.2.2.2.2.2.2.2.2.2.2.2.1 b.2.2.2.2.2.2.2.2.2.2.2.2.2.2.2.1 b.2.2.2.2.2.2.2.2.2.2.2.2.2.2.2.2.1 b.2.2.2.2.2.2.2.2.2.2.2.2.2.2.2.2.2.1 b.2.2.2.2.2.2.2.2.2.2.2.2.2.2.2.2.2.2).bind fun r=>
   some ((r.1,b.1,b.2.1,b.2.2.1,r.2.1,b.2.2.2.2.1,r.2.2.1,r.2.2.2.2.1,r.2.2.2.2.2.1,r.2.2.2.2.2.2.1,r.2.2.2.2.2.2.2.1,r.2.2.2.2.2.2.2.2.1,r.2.2.2.2.2.2.2.2.2.1,r.2.2.2.2.2.2.2.2.2.2.1,r.2.2.2.2.2.2.2.2.2.2.2.1,r.2.2.2.1,r.2.2.2.2.2.2.2.2.2.2.2.2.1,r.2.2.2.2.2.2.2.2.2.2.2.2.2.1,r.2.2.2.2.2.2.2.2.2.2.2.2.2.2.1,r.2.2.2.2.2.2.2.2.2.2.2.2.2.2.2))
  else none
 else
  if i64 (it.1+(List.length it.2:Int)) then
   (rJ (b.1,(b.2.1,(b.2.2.1,(b.2.2.2.1,())))) b.2.2.2.2.1 (b.2.2.2.2.2.1,()) (r.1,(r.2.1,(r.2.2,()))) (it.1+(List.length it.2:Int)) b.2.2.2.2.2.2.1 b.2.2.2.2.2.2.2.1 b.2.2.2.2.2.2.2.2.1 b.2.2.2.2.2.2.2.2.2.1 b.2.2.2.2.2.2.2.2.2.2.1 (b.2.2.2.2.2.2.2.2.2.2.2.1,(b.2.2.2.2.2.2.2.2.2.2.2.2.1,())) (b.2.2.2.2.2.2.2.2.2.2.2.2.2.1,()) b.2.2.2.2.2.2.2.2.2.2.2.2.2.2.1 b.2.2.2.2.2.2.2.2.2.2.2.2.2.2.2.1 b.2.2.2.2.2.2.2.2.2.2.2.2.2.2.2.2.1 b.2.2.2.2.2.2.2.2.2.2.2.2.2.2.2.2.2.1 b.2.2.2.2.2.2.2.2.2.2.2.2.2.2.2.2.2.2).bind fun r=>
   some ((r.1,r.2.1,r.2.2.1,r.2.2.2.1,b.2.2.2.1,r.2.2.2.2.1,r.2.2.2.2.2.1,r.2.2.2.2.2.2.1,r.2.2.2.2.2.2.2.1,r.2.2.2.2.2.2.2.2.1,r.2.2.2.2.2.2.2.2.2.1,r.2.2.2.2.2.2.2.2.2.2.1,r.2.2.2.2.2.2.2.2.2.2.2.1,r.2.2.2.2.2.2.2.2.2.2.2.2.1,r.2.2.2.2.2.2.2.2.2.2.2.2.2.1,b.2.2.2.2.2.2.2.2.2.2.2.2.2.2.1,r.2.2.2.2.2.2.2.2.2.2.2.2.2.2.1,r.2.2.2.2.2.2.2.2.2.2.2.2.2.2.2.1,r.2.2.2.2.2.2.2.2.2.2.2.2.2.2.2.2.1,r.2.2.2.2.2.2.2.2.2.2.2.2.2.2.2.2.2))
  else none
theorem aCi (it:Int×List UInt8) (b:PS):EY it b=(DJ it b).bind fun q=>if (!decide (q.1=(0:Int)))=true then none else some (.inl q.2):=by
  unfold EY DJ pW
  obtain⟨b1,b2,b3,b4,b5,b6,b7,b8,b9,b10,b11,b12,b13,b14,qJ,b16,b17,b18,b19⟩:=b
  dsimp only
  cases zR it.2 [10] with
  |none=>rfl
  | some r1=>
    rw[Option.bind_some,Option.bind_some]
    cases yA (Lib.trimLeftS r1 [32,9]) with
    |none=>rfl
    |some r=>rfl
theorem aCj (it:Int×List UInt8) (b:PS):EZ it b=(DJ it b).bind fun q=>if (!decide (q.1=(0:Int)))=true then some (.inr (it.1,q.1)) else some (.inl q.2):=by
  unfold EZ DJ pW
  obtain⟨b1,b2,b3,b4,b5,b6,b7,b8,b9,b10,b11,b12,b13,b14,qJ,b16,b17,b18,b19⟩:=b
  dsimp only
  cases zR it.2 [10] with
  |none=>rfl
  | some r1=>
    rw[Option.bind_some,Option.bind_some]
    cases yA (Lib.trimLeftS r1 [32,9]) with
    |none=>rfl
    |some r=>rfl
noncomputable def yE (b:RS) (r:Int×List UInt8×List UInt8×Bool):Option (Int×Bool×(List UInt8)×(List (List UInt8))×(List p8)×(List dT1)×(List UInt8)×(List UInt8)×(List UInt8)×(List (List UInt8))×(List (List UInt8))×Int×(List p8)×Bool×Bool×Int):=
  match b with
  |(O,Z,_,aA,aB,aC,aD,aE,aF,aG,aH,aI,aJ,aK,aL,aM,aN)=>
       if (decide ((List.length O:Int)=(0:Int)))=true then
        (sO (aA,(aB,(aC,(aD,())))) ((aE,(aF,(aG,(aH,(aI,(aJ,(aK,()))))))),(aL,(aM,(aN,())))) (r.1,(r.2.1,(r.2.2.1,(r.2.2.2,()))))).bind fun aO=>
        some ((aO.2.2.2.2.2.2.2.2.2.2.2.2.2.2,aO.2.2.2.2.2.2.2.2.2.2.2.2.2.1,aO.1,aO.2.1,aO.2.2.1,aD,aO.2.2.2.1,aO.2.2.2.2.1,aO.2.2.2.2.2.1,aO.2.2.2.2.2.2.1,aO.2.2.2.2.2.2.2.1,aO.2.2.2.2.2.2.2.2.1,aO.2.2.2.2.2.2.2.2.2.1,aO.2.2.2.2.2.2.2.2.2.2.1,aO.2.2.2.2.2.2.2.2.2.2.2.1,aO.2.2.2.2.2.2.2.2.2.2.2.2.1))
       else
        if (decide (r.1=(9:Int)))=true then
         (D5 (aA,(aB,(aC,(aD,())))) ((aE,(aF,(aG,(aH,(aI,(aJ,(aK,()))))))),(aL,(aM,(aN,())))) (r.1,(r.2.1,(r.2.2.1,(r.2.2.2,()))))).bind fun aP=>
         some ((aP.2,true,aA,aB,aC,aP.1,([]:List UInt8),([]:List UInt8),([]:List UInt8),([]:List (List UInt8)),([]:List (List UInt8)),(0:Int),([]:List p8),false,false,(-1:Int)))
        else
         if (((decide ((2:Int)≤r.1))&&(decide (r.1≤(7:Int))))&&(!decide (r.1=(3:Int))))=true then
          (sL ((aE,(aF,(aG,(aH,(aI,(aJ,(aK,()))))))),(aL,(aM,(aN,())))) (r.1,(r.2.1,(r.2.2.1,(r.2.2.2,()))))).bind fun aQ=>
          if (decide (aN<(0:Int)))=true then
           some ((aQ.2.2.2.2.2.2.2,false,aA,aB,aC,aD,aE,aQ.1,aG,aQ.2.1,aQ.2.2.1,aQ.2.2.2.1,aQ.2.2.2.2.1,aQ.2.2.2.2.2.1,aQ.2.2.2.2.2.2.1,Z))
          else
           some ((aQ.2.2.2.2.2.2.2,false,aA,aB,aC,aD,aE,aQ.1,aG,aQ.2.1,aQ.2.2.1,aQ.2.2.2.1,aQ.2.2.2.2.1,aQ.2.2.2.2.2.1,aQ.2.2.2.2.2.2.1,aN))
         else
          if (decide ((1:Int)<r.1))=true then
           some (((3:Int),false,aA,aB,aC,aD,aE,aF,aG,aH,aI,aJ,aK,aL,aM,aN))
          else
           some (((0:Int),false,aA,aB,aC,aD,aE,aF,aG,aH,aI,aJ,aK,aL,aM,aN))
theorem aIZ {ls:List (List UInt8)}{b:RS}{i:Nat}(hi:b.2.2.1=(i:Int)) (hlt:i<ls.length) (h1:i≤1000000) (h2:i64 (b.2.1+(List.length ls[i]:Int))):y8 ls b=(zT ls[i]).bind fun q=>(yE b q).bind fun r=>
     if (!decide (r.1=(0:Int)))=true then
      some (.inr (.inr ((([]:List UInt8),([]:List (List UInt8)),([]:List p8),([]:List dT1),([]:List Int),b.2.1,r.1))))
     else
      if r.2.1=true then
       if (List.length b.1+1)*8≤140737488355328 then
         some (.inl ((b.1++([(b.2.1+(List.length ls[i]:Int))]:List Int)),(b.2.1+(List.length ls[i]:Int)),((i:Int)+1),r.2.2))
       else none
      else
        some (.inl (b.1,(b.2.1+(List.length ls[i]:Int)),((i:Int)+1),r.2.2)):=by
  obtain⟨b1,b2,b3,b4,b5,b6,b7,b8,b9,b10,b11,b12,b13,b14,qJ,b16,b17⟩:=b
  dsimp only at hi h2
  subst hi
  unfold y8 pW
  dsimp only
  rw[if_pos (sH hlt),if_pos (qD hlt),vO (t:= .str) hlt]
  cases zT ls[i] with
  |none=>rfl
  | some q=>
    rw[Option.bind_some,Option.bind_some,if_pos (qD hlt),if_pos h2]
    unfold yE
    dsimp only
    refine congrArg (Option.bind _) (funext fun r=> ?_)
    obtain⟨r1,r2,r3,r4,r5,r6,r7,r8,r9,r10,r11,r12,r13,r14,r15,r16⟩:=r
    dsimp only
    rw[if_pos (qW h1),if_pos (qW h1)]
    rfl
structure SI (tag:List UInt8) (cms:List (List UInt8)) (fds:List Fld) (es:List dT1) (ends:List Int) (cm:List (List UInt8)) (fl:List (List UInt8)) (fd:List Fld) (ids:List (List UInt8×Bool)) (once:List (Int×Bool)) (fm dm:List (List UInt8×Bool)) (hs ht:Bool):Prop where
  b:BI cm fl fd once fm dm hs ht
  tg:ends=[]→mget (.int .i64) .bool once 4= !decide (tag=[])
  id:IdsOk ids es
  en:es.length≤1000
  ef: ∀y∈es,EntFit y
  cf:fit cms
  ff:fit fds
section
variable {cm:List (List UInt8)}{fl:List (List UInt8)}{fd:List Fld}{once:List (Int×Bool)}{fm dm:List (List UInt8×Bool)}{src a1 a2 q1 q2:List UInt8}{a3:List (List UInt8)}{st op:Int}
theorem aCk {pf:Int}(h:pf=1∨pf=2):rX cm a1 src a2 a3 (st,(fd,())) (op,()) (pf,(q1,(q2,()))) once fm dm fl=some (0,cm,src,st,fd,once,fm,dm,fl):=by
  unfold rX
  rcases h with rfl|rfl<;>simp only[pW,Option.bind_some,decide_eq_true_eq,Int.reduceEq,↓reduceIte]
theorem aI0:rX cm a1 src a2 a3 (st,(fd,())) (op,()) (4,(q1,(q2,()))) once fm dm fl=some (if mget (.int .i64) .bool once 4=true then(9,cm,src,st,fd,once,fm,dm,fl) else(0,cm,src,st,fd,qK (.int .i64) .bool 4 true once,fm,dm,fl)):=by
  unfold rX
  simp only[pW,Option.bind_some,decide_eq_true_eq,Int.reduceEq,↓reduceIte]
  by_cases h:mget (.int .i64) .bool once 4=true
  ·rw[if_pos h,if_pos h]
  ·rw[if_neg h,if_neg h]
end
theorem aI1 {v:List UInt8}(h:yB v=true):v≠[]:=by
  rintro rfl
  exact absurd h (by decide)
section
variable {tag:List UInt8}{cms:List (List UInt8)}{fds:List Fld}{es:List dT1}{cm:List (List UInt8)}{fl:List (List UInt8)}{fd:List Fld}{ids:List (List UInt8×Bool)}{once:List (Int×Bool)}{fm dm:List (List UInt8×Bool)}{hs ht:Bool}
variable {src:List UInt8}{st op tz:Int}{f:Int}{k v:List UInt8}{bad:Bool}
abbrev RP:=Int×(List UInt8)×(List (List UInt8))×(List p8)×Bool×(List Int)×(List (List UInt8))×(List UInt8)×(List UInt8)×(List UInt8)×(List (List UInt8))×Int×(List p8)×Int×(List (Int×Bool))×(List ((List UInt8)×Bool))×(List ((List UInt8)×Bool))×(List (List UInt8))
abbrev RR:=(List UInt8)×(List (List UInt8))×(List p8)×(List UInt8)×(List UInt8)×(List UInt8)×(List (List UInt8))×(List (List UInt8))×Int×(List p8)×Bool×Bool×Int×Bool×Int
def aI2 (es:List dT1) (ids:List (List UInt8×Bool)) (tz:Int) (rp:RP) (rr:RR):Prop:=
  ∃ tag' cms' fds' cm' src' st' fd' op' once' fm' dm' fl' hs' ht' dn,rp=(0,tag',cms',fds',dn,(if dn=true then[tz] else[]),cm',[],src',[],[],st',fd',op',once',fm',dm',fl')∧
    rr=(tag',cms',fds',[],src',[],cm',qH fl',st',fd',hs',ht',op',dn,0)∧SI tag' cms' fds' es (if dn=true then[tz] else[]) cm' fl' fd' ids once' fm' dm' hs' ht'
def DK (tag:List UInt8) (cms:List (List UInt8)) (fds:List Fld) (es:List dT1) (cm:List (List UInt8)) (fl:List (List UInt8)) (fd:List Fld) (ids:List (List UInt8×Bool)) (once:List (Int×Bool)) (fm dm:List (List UInt8×Bool)) (hs ht:Bool) (src:List UInt8) (st op tz f:Int) (k v:List UInt8) (bad:Bool):Prop:=
  ∃ rp rr,rJ (tag,(cms,(fds,(es,())))) false ([],()) ((qB f k v bad).1,((qB f k v bad).2.1,((qB f k v bad).2.2,()))) tz cm [] src [] [] (st,(fd,())) (op,()) ids once fm dm fl=some rp∧
    sO (tag,(cms,(fds,(es,())))) (([],(src,([],(cm,(qH fl,(st,(fd,()))))))),(hs,(ht,(op,())))) (f,(k,(v,(bad,()))))=some rr∧
    ((rp.1≠0∧rr.2.2.2.2.2.2.2.2.2.2.2.2.2.2=rp.1)∨aI2 es ids tz rp rr)
variable (h:SI tag cms fds es [] cm fl fd ids once fm dm hs ht)
include h
theorem H0 (hp:(qB f k v bad).1=0∨(qB f k v bad).1=5∨(qB f k v bad).1=6∨(qB f k v bad).1=7∨(qB f k v bad).1=10) (hr: ∃rr,sO (tag,(cms,(fds,(es,())))) (([],(src,([],(cm,(qH fl,(st,(fd,()))))))),(hs,(ht,(op,())))) (f,(k,(v,(bad,()))))=some rr∧rr.2.2.2.2.2.2.2.2.2.2.2.2.2.2=3):DK tag cms fds es cm fl fd ids once fm dm hs ht src st op tz f k v bad:=by
  obtain⟨rr,h1,h2⟩:=hr
  refine⟨(3,tag,cms,fds,false,[],cm,[],src,[],[],st,fd,op,once,fm,dm,fl),rr,?_,h1,.inl ⟨?_,?_⟩⟩
  · unfold rJ
    generalize (qB f k v bad).1=pf at hp
    rcases hp with rfl|rfl|rfl|rfl|rfl<;>simp only[pW,Option.bind_some,decide_eq_true_eq,Int.reduceEq,↓reduceIte]
  · show (3:Int)≠0
    decide
  ·exact h2
theorem aCl (hf:f=0∨f=1):DK tag cms fds es cm fl fd ids once fm dm hs ht src st op tz f k v bad:=by
  unfold DK rJ sO
  have h1: ∀{q1 q2:List UInt8},rX cm [] src [] [] (st,(fd,())) (op,()) (1,(q1,(q2,()))) once fm dm fl=some (0,cm,src,st,fd,once,fm,dm,fl):=aCk (.inl rfl)
  have h2: ∀{q1 q2:List UInt8},rX cm [] src [] [] (st,(fd,())) (op,()) (2,(q1,(q2,()))) once fm dm fl=some (0,cm,src,st,fd,once,fm,dm,fl):=aCk (.inr rfl)
  rcases hf with rfl|rfl
  · rw[show qB 0 k v bad=(1,[],[]) from rfl]
    simp only[pW,Option.bind_some,decide_eq_true_eq,Int.reduceEq,↓reduceIte,h1]
    exact⟨_,_,rfl,rfl,.inr ⟨tag,cms,fds,cm,src,st,fd,op,once,fm,dm,fl,hs,ht,false,rfl,rfl,h⟩⟩
  · rw[show qB 1 k v bad=(2,[],[]) from rfl]
    simp only[pW,Option.bind_some,decide_eq_true_eq,Int.reduceEq,↓reduceIte,h2]
    exact⟨_,_,rfl,rfl,.inr ⟨tag,cms,fds,cm,src,st,fd,op,once,fm,dm,fl,hs,ht,false,rfl,rfl,h⟩⟩
theorem aCm (hf:f=2∨f=7) (hk:k.length≤20000):DK tag cms fds es cm fl fd ids once fm dm hs ht src st op tz f k v bad:=by
  have hA:GZ cm fl fd once fm dm hs ht src [] [] [] [] [] st op op f k v bad:=by
    rcases hf with rfl|rfl
    ·exact aCg h.b
    ·exact aCh h.b hk
  have hr: ∀r,sL (([],(src,([],(cm,(qH fl,(st,(fd,()))))))),(hs,(ht,(op,())))) (f,(k,(v,(bad,()))))=some r→sO (tag,(cms,(fds,(es,())))) (([],(src,([],(cm,(qH fl,(st,(fd,()))))))),(hs,(ht,(op,())))) (f,(k,(v,(bad,()))))=some (tag,cms,fds,[],r.1,[],r.2.1,r.2.2.1,r.2.2.2.1,r.2.2.2.2.1,r.2.2.2.2.2.1,r.2.2.2.2.2.2.1,op,false,r.2.2.2.2.2.2.2):=by
    intro r hr
    unfold sO
    rcases hf with rfl|rfl<;>simp only[pW,Option.bind_some,decide_eq_true_eq,Int.reduceEq,↓reduceIte,hr]
  rcases hA with⟨h0,r,h1,h2⟩ |⟨hp,e,cm',src',st',fd',once',fm',dm',fl',hs',ht',h1,h2,h3,h4⟩
  ·exact H0 h (.inl h0) ⟨_,hr r h1,h2⟩
  · refine⟨(e,tag,cms,fds,false,[],cm',[],src',[],[],st',fd',op,once',fm',dm',fl'),_,?_,hr _ h2,?_⟩
    · unfold rJ
      dsimp only
      rw[h1]
      rcases hf with rfl|rfl<;>rw[hp]<;>simp only[pW,Option.bind_some,decide_eq_true_eq,Int.reduceEq,Int.reduceAdd,↓reduceIte]
    · by_cases he:e=0
      · subst he
        exact .inr ⟨tag,cms,fds,cm',src',st',fd',op,once',fm',dm',fl',hs',ht',false,rfl,rfl,⟨h3,fun _=>by rw[h4];exact h.tg rfl,h.id,h.en,h.ef,h.cf,h.ff⟩⟩
      ·exact .inl ⟨he,rfl⟩
theorem aI3 (hv:v.length≤20000):DK tag cms fds es cm fl fd ids once fm dm hs ht src st op tz 3 k v bad:=by
  have hfv:fit v:=by unfold fit;omega
  by_cases hb:bad=true∨yB v=false
  · refine H0 h (.inl ?_) ?_
    · rcases hb with rfl|hb
      ·rfl
      · cases bad with
        |true=>rfl
        | false=>
          show (if yB v=true then((4:Int),([]:List UInt8),v) else(0,[],[])).1=0
          rw[if_neg (by rw[hb];exact Bool.false_ne_true)]
    · unfold sO
      simp only[pW,Option.bind_some,decide_eq_true_eq,Int.reduceEq,↓reduceIte]
      rw[aAZ v hfv,if_pos uB,zI,if_pos (by rcases hb with rfl|hb;rfl;rw[hb];simp)]
      exact⟨_,rfl,rfl⟩
  · have hb1:bad=false:=by cases bad;rfl;exact absurd (.inl rfl) hb
    have hb2:yB v=true:=by cases ht2:yB v;exact absurd (.inr ht2) hb;rfl
    subst hb1
    have hp:qB 3 k v false=(4,[],v):=by
      show (if yB v=true then((4:Int),([]:List UInt8),v) else(0,[],[]))=_
      rw[if_pos hb2]
    have htg:=h.tg rfl
    have hat: ∀{q1 q2:List UInt8},rX cm [] src [] [] (st,(fd,())) (op,()) (4,(q1,(q2,()))) once fm dm fl=_:=aI0
    unfold DK rJ sO
    rw[hp]
    simp only[pW,Option.bind_some,decide_eq_true_eq,Int.reduceEq,↓reduceIte,hat]
    rw[aAZ v hfv,if_pos uB,zI,if_neg (show¬(false|| !yB v)=true by rw[hb2];decide),htg]
    by_cases ht0:tag=[]
    · rw[decide_eq_true ht0]
      simp only[Bool.not_true,Bool.not_false,Bool.false_eq_true,↓reduceIte,Option.bind_some]
      refine⟨_,_,rfl,rfl,.inr ⟨v,cms,fds,cm,src,st,fd,op,_,fm,dm,fl,hs,ht,false,rfl,rfl,⟨⟨h.b.c,h.b.f,h.b.d,?_,?_,h.b.g1,h.b.g1t,h.b.g1n,h.b.g2,h.b.g2t,h.b.g2n⟩,fun _=> ?_,h.id,h.en,h.ef,h.cf,h.ff⟩⟩⟩
      ·rw[BX,if_neg (by decide)];exact h.b.o5
      ·rw[BX,if_neg (by decide)];exact h.b.o6
      · rw[BX,if_pos rfl,decide_eq_false (aI1 hb2)]
        rfl
    · rw[decide_eq_false ht0]
      simp only[Bool.not_true,Bool.not_false,Bool.false_eq_true,↓reduceIte,Option.bind_some]
      exact⟨_,_,rfl,rfl,.inl ⟨(show (9:Int)≠0 by decide),rfl⟩⟩
theorem aI4:DK tag cms fds es cm fl fd ids once fm dm hs ht src st op tz 8 k v bad:=by
  have htg:=h.tg rfl
  unfold DK rJ sO
  rw[show qB 8 k v bad=(9,[],[]) from rfl]
  simp only[pW,Option.bind_some,decide_eq_true_eq,Int.reduceEq,↓reduceIte]
  rw[htg]
  by_cases ht0:tag=[]
  · rw[decide_eq_true ht0,if_pos ht0]
    exact⟨_,_,rfl,rfl,.inl ⟨(show (3:Int)≠0 by decide),rfl⟩⟩
  · rw[decide_eq_false ht0,if_neg ht0]
    simp only[Bool.not_false,Bool.not_true,Bool.false_eq_true,↓reduceIte,List.length_nil,List.length_cons,List.nil_append]
    have hc:=h.b.c
    have hd:=h.b.d
    exact⟨_,_,rfl,rfl,.inr ⟨tag,cm,fd,[],[],0,[],-1,[],[],[],[],false,false,true,rfl,by rw[show qH []=[] from List.length_eq_zero_iff.1 (DI [])],⟨a4f,fun hh=>(by cases hh),h.id,h.en,h.ef,by unfold fit;omega,by unfold fit;omega⟩⟩⟩
theorem aI5 (hf0:0≤f) (hf:f≤10) (hk:k.length≤20000) (hv:v.length≤20000):DK tag cms fds es cm fl fd ids once fm dm hs ht src st op tz f k v bad:=by
  have:f=0∨f=1∨f=2∨f=3∨f=4∨f=5∨f=6∨f=7∨f=8∨f=9∨f=10:=by omega
  have hr:(f=4∨f=5∨f=6∨f=9∨f=10)→∃rr,sO (tag,(cms,(fds,(es,())))) (([],(src,([],(cm,(qH fl,(st,(fd,()))))))),(hs,(ht,(op,())))) (f,(k,(v,(bad,()))))=some rr∧rr.2.2.2.2.2.2.2.2.2.2.2.2.2.2=3:=by
    intro hh
    unfold sO
    rcases hh with rfl|rfl|rfl|rfl|rfl<;>simp only[pW,Option.bind_some,decide_eq_true_eq,Int.reduceEq,↓reduceIte]<;>exact⟨_,rfl,rfl⟩
  rcases this with rfl|rfl|rfl|rfl|rfl|rfl|rfl|rfl|rfl|rfl|rfl
  ·exact aCl h (.inl rfl)
  ·exact aCl h (.inr rfl)
  ·exact aCm h (.inl rfl) hk
  ·exact aI3 h hv
  · refine H0 h ?_ (hr (.inl rfl))
    cases bad
    ·exact .inr (.inl rfl)
    ·exact .inl rfl
  · refine H0 h ?_ (hr (.inr (.inl rfl)))
    cases bad
    · rw[show qB 5 k v false=(if 0≤qZ v then((6:Int),([]:List UInt8),v) else(0,[],[])) from rfl]
      split
      ·exact .inr (.inr (.inl rfl))
      ·exact .inl rfl
    ·exact .inl rfl
  · refine H0 h ?_ (hr (.inr (.inr (.inl rfl))))
    cases bad
    · rw[show qB 6 k v false=(if qI v=true then((7:Int),([]:List UInt8),v) else(0,[],[])) from rfl]
      split
      ·exact .inr (.inr (.inr (.inl rfl)))
      ·exact .inl rfl
    ·exact .inl rfl
  ·exact aCm h (.inr rfl) hk
  ·exact aI4 h
  · refine H0 h ?_ (hr (.inr (.inr (.inr (.inl rfl)))))
    cases bad
    · rw[aCa]
      split
      ·exact .inl rfl
      ·exact .inr (.inr (.inr (.inr rfl)))
    ·exact .inl rfl
  ·exact H0 h (.inl (by rw[JN])) (hr (.inr (.inr (.inr (.inr rfl)))))
end
end Go.Proofs.YtfchbnahjcdiiaaGreatDoor
namespace Go.Proofs.YtfchbnahjcdiiaaGreatDoor
open Vc
set_option maxRecDepth 100000
section
variable {tag:List UInt8}{cms:List (List UInt8)}{fds:List Fld}{es:List dT1}{ends:List Int}{cm:List (List UInt8)}{fl:List (List UInt8)}{fd:List Fld}{ids:List (List UInt8×Bool)}{once:List (Int×Bool)}{fm dm:List (List UInt8×Bool)}{hs ht:Bool}
variable {src:List UInt8}{st op at0 idx tz:Int}{f:Int}{k v:List UInt8}{bad:Bool}
abbrev EP:=Int×(List dT1)×(List Int)×(List ((List UInt8)×Bool))×(List (List UInt8))×(List UInt8)×(List UInt8)×(List UInt8)×(List (List UInt8))×Int×(List p8)×Int×(List (Int×Bool))×(List ((List UInt8)×Bool))×(List ((List UInt8)×Bool))×(List (List UInt8))
abbrev ER:=Int×Bool×(List UInt8)×(List (List UInt8))×(List p8)×(List dT1)×(List UInt8)×(List UInt8)×(List UInt8)×(List (List UInt8))×(List (List UInt8))×Int×(List p8)×Bool×Bool×Int
def aI6 (tag:List UInt8) (cms:List (List UInt8)) (fds:List Fld) (ends:List Int) (tz:Int) (rp:EP) (rr:ER):Prop:=
 ∃es' ids' cm' src' st' fd' op' once' fm' dm' fl' hs' ht' dn,rp=(0,es',ends++(if dn=true then[tz] else[]),ids',cm',[],src',[],[],st',fd',op',once',fm',dm',fl')∧
  rr=(0,dn,tag,cms,fds,es',[],src',[],cm',qH fl',st',fd',hs',ht',op')∧SI tag cms fds es' (ends++(if dn=true then[tz] else[])) cm' fl' fd' ids' once' fm' dm' hs' ht'
def H4 (tag:List UInt8) (cms:List (List UInt8)) (fds:List Fld) (es:List dT1) (ends:List Int) (cm:List (List UInt8)) (fl:List (List UInt8)) (fd:List Fld) (ids:List (List UInt8×Bool)) (once:List (Int×Bool)) (fm dm:List (List UInt8×Bool)) (hs ht:Bool) (src:List UInt8) (st op at0 idx tz f:Int) (k v:List UInt8) (bad:Bool):Prop:=
 ∃rp rr,rY (tag,(cms,(fds,(es,())))) true (ends,()) ((qB f k v bad).1,((qB f k v bad).2.1,((qB f k v bad).2.2,()))) at0 tz cm [] src [] [] (st,(fd,())) (op,()) ids once fm dm fl=some rp∧
  yE (ends,at0,idx,tag,cms,fds,es,[],src,[],cm,qH fl,st,fd,hs,ht,op) (f,k,v,bad)=some rr∧((rp.1≠0∧rr.1=rp.1)∨aI6 tag cms fds ends tz rp rr)
variable (h:SI tag cms fds es ends cm fl fd ids once fm dm hs ht) (hne:ends≠[])
include h hne
theorem MX (hp:(qB f k v bad).1=0∨(qB f k v bad).1=4∨(qB f k v bad).1=9) (hr: ∃rr,yE (ends,at0,idx,tag,cms,fds,es,[],src,[],cm,qH fl,st,fd,hs,ht,op) (f,k,v,bad)=some rr∧rr.1=3):H4 tag cms fds es ends cm fl fd ids once fm dm hs ht src st op at0 idx tz f k v bad:=by
 obtain⟨rr,h1,h2⟩:=hr
 refine⟨(3,es,ends,ids,cm,[],src,[],[],st,fd,op,once,fm,dm,fl),rr,?_,h1,.inl ⟨?_,?_⟩⟩
 ·unfold rY
  generalize (qB f k v bad).1=pf at hp
  rcases hp with rfl|rfl|rfl<;>simp only[pW,Option.bind_some,decide_eq_true_eq,Int.reduceEq,↓reduceIte]
 ·show (3:Int)≠0
  decide
 ·exact h2
omit h in
theorem H5: ¬decide ((List.length ends:Int)=0)=true:=by
 have:ends.length≠0:=fun hh=>hne (List.length_eq_zero_iff.1 hh)
 simp only[decide_eq_true_eq]
 omega
theorem aCn (hf:f=0∨f=1):H4 tag cms fds es ends cm fl fd ids once fm dm hs ht src st op at0 idx tz f k v bad:=by
 unfold H4 rY yE
 rcases hf with rfl|rfl
 ·rw[show qB 0 k v bad=(1,[],[]) from rfl]
  dsimp only
  rw[if_neg (H5 hne)]
  simp only[pW,Option.bind_some,decide_eq_true_eq,Int.reduceEq,↓reduceIte]
  exact⟨_,_,rfl,rfl,.inr ⟨es,ids,cm,src,st,fd,op,once,fm,dm,fl,hs,ht,false,by simp,rfl,by simpa using h⟩⟩
 ·rw[show qB 1 k v bad=(2,[],[]) from rfl]
  dsimp only
  rw[if_neg (H5 hne)]
  simp only[pW,Option.bind_some,decide_eq_true_eq,Int.reduceEq,↓reduceIte]
  exact⟨_,_,rfl,rfl,.inr ⟨es,ids,cm,src,st,fd,op,once,fm,dm,fl,hs,ht,false,by simp,rfl,by simpa using h⟩⟩
theorem MY (hf:f=2∨f=4∨f=5∨f=6∨f=7) (hk:k.length≤20000) (hv:v.length≤20000):H4 tag cms fds es ends cm fl fd ids once fm dm hs ht src st op at0 idx tz f k v bad:=by
 have hA: ∀op1,GZ cm fl fd once fm dm hs ht src [] [] [] [] [] st op1 op f k v bad:=by
  intro op1
  rcases hf with rfl|rfl|rfl|rfl|rfl
  ·exact aCg h.b
  ·exact aIW h.b
  ·exact aIX h.b
  ·exact aIY h.b hv
  ·exact aCh h.b hk
 have hr: ∀r,sL (([],(src,([],(cm,(qH fl,(st,(fd,()))))))),(hs,(ht,(op,())))) (f,(k,(v,(bad,()))))=some r→yE (ends,at0,idx,tag,cms,fds,es,[],src,[],cm,qH fl,st,fd,hs,ht,op) (f,k,v,bad)=some (r.2.2.2.2.2.2.2,false,tag,cms,fds,es,[],r.1,[],r.2.1,r.2.2.1,r.2.2.2.1,r.2.2.2.2.1,r.2.2.2.2.2.1,r.2.2.2.2.2.2.1,if op<0 then at0 else op):=by
  intro r hr
  unfold yE
  dsimp only
  rw[if_neg (H5 hne),if_neg (by rcases hf with rfl|rfl|rfl|rfl|rfl<;>simp),if_pos (by rcases hf with rfl|rfl|rfl|rfl|rfl<;>simp),hr,Option.bind_some]
  by_cases ho:op<0
  ·rw[if_pos (by simpa using ho),if_pos ho]
  ·rw[if_neg (by simpa using ho),if_neg ho]
 rcases hA (if op<0 then at0 else op) with⟨h0,r,h1,h2⟩ |⟨hp,e,cm',src',st',fd',once',fm',dm',fl',hs',ht',h1,h2,h3,h4⟩
 ·exact MX h hne (.inl h0) ⟨_,hr r h1,h2⟩
 ·refine⟨(e,es,ends,ids,cm',[],src',[],[],st',fd',(if op<0 then at0 else op),once',fm',dm',fl'),_,?_,hr _ h2,?_⟩
  ·have hpf: ¬((qB f k v bad).1=0∨(qB f k v bad).1=4∨(qB f k v bad).1=9)∧¬((qB f k v bad).1=1∨(qB f k v bad).1=2)∧¬(qB f k v bad).1=10:=by
    rw[hp];rcases hf with rfl|rfl|rfl|rfl|rfl<;>decide
   unfold rY
   dsimp only
   generalize (qB f k v bad).1=pf at hpf h1
   obtain⟨n1,n2,n3⟩:=hpf
   simp only[not_or] at n1 n2
   simp only[pW,Option.bind_some,decide_eq_true_eq,n1.1,n1.2.1,n1.2.2,n2.1,n2.2,n3,↓reduceIte]
   by_cases ho:op<0
   ·rw[if_pos ho] at h1⊢
    rw[if_pos ho,h1]
    rfl
   ·rw[if_neg ho] at h1⊢
    rw[if_neg ho,h1]
    rfl
  ·by_cases he:e=0
   ·subst he
    exact .inr ⟨es,ids,cm',src',st',fd',_,once',fm',dm',fl',hs',ht',false,by simp,rfl,⟨h3,fun hh=>absurd (by simpa using hh) hne,h.id,h.en,h.ef,h.cf,h.ff⟩⟩
   ·exact .inl ⟨he,rfl⟩
theorem aI7 (hk:k.length≤20000) (hen:ends.length≤10000):H4 tag cms fds es ends cm fl fd ids once fm dm hs ht src st op at0 idx tz 9 k v bad:=by
 by_cases hb:bad=true∨k=[]∨200<k.length
 ·refine MX h hne (.inl ?_) ?_
  ·rcases hb with rfl|hb
   ·rfl
   ·cases bad with
    |true=>rfl
    |false=>
     show (if k=[]∨200<k.length then((0:Int),([]:List UInt8),([]:List UInt8)) else(10,k,v)).1=0
     rw[if_pos hb]
  ·unfold yE D5
   dsimp only
   rw[if_neg (H5 hne),if_pos (show decide ((9:Int)=9)=true from rfl),if_pos (by
    rcases hb with rfl|rfl|hb
    ·rfl
    ·simp
    ·simp;exact .inr (by omega))]
   exact⟨_,rfl,rfl⟩
 ·simp only[not_or] at hb
  have hb1:bad=false:=by cases bad;rfl;exact absurd rfl hb.1
  subst hb1
  have hp:qB 9 k v false=(10,k,v):=by
   show (if k=[]∨200<k.length then((0:Int),([]:List UInt8),([]:List UInt8)) else(10,k,v))=_
   rw[if_neg (fun hh=>hh.elim hb.2.1 hb.2.2)]
  unfold H4 rY yE D5
  rw[hp]
  dsimp only
  rw[if_neg (H5 hne),if_pos (show decide ((9:Int)=9)=true from rfl),if_neg (show¬((false||decide (k=[]))||decide ((200:Int)<(k.length:Int)))=true by simp [hb.2.1]<;>omega),aB0 (tag,(cms,(fds,(es,())))) k (by have:=h.en;dsimp only;omega),Option.bind_some,aBZ]
  simp only[pW,Option.bind_some,decide_eq_true_eq,Int.reduceEq,↓reduceIte]
  rw[h.id k]
  have hen1:=h.en
  by_cases hd:(es.any fun y=>decide (y.1=k))=true
  ·rw[if_pos hd,if_pos hd,Option.bind_some]
   exact⟨_,_,rfl,rfl,.inl ⟨(show (9:Int)≠0 by decide),rfl⟩⟩
  ·rw[if_neg hd,if_neg hd]
   by_cases h1000:es.length=1000
   ·rw[if_pos (show ((es.length:Int)=1000) by omega),if_pos (show ((1000:Int)≤(es.length:Int)) by omega),Option.bind_some]
    exact⟨_,_,rfl,rfl,.inl ⟨(show (6:Int)≠0 by decide),rfl⟩⟩
   ·have hf:=h.b.f
    have hc:=h.b.c
    have hd2:=h.b.d
    rw[if_neg (show¬((es.length:Int)=1000) by omega),if_pos (show fl.length<4611686018427387904 by omega),if_pos (by simp only[List.length_cons,List.length_nil];omega),if_pos (by simp only[List.length_cons,List.length_nil];omega),if_neg (show¬((1000:Int)≤(es.length:Int)) by omega),if_pos (by simp only[List.length_nil];omega),if_pos (by simp only[List.nil_append,List.length_cons,List.length_nil];omega),Option.bind_some]
    refine⟨_,_,rfl,rfl,.inr ⟨es++[(k,src,v,cm,qH fl,st,fd,())],qK .str .bool k true ids,[],[],0,[],-1,[],[],[],[],false,false,true,rfl,by rw[show qH []=[] from List.length_eq_zero_iff.1 (DI [])];rfl,⟨a4f,fun hh=>(by simp at hh),aB1 h.id _ k rfl,by simp;omega,fun y hy=> ?_,h.cf,h.ff⟩⟩⟩
    rcases List.mem_append.1 hy with hy|hy
    ·exact h.ef y hy
    ·rw[List.mem_singleton.1 hy]
     exact⟨by unfold fit;dsimp only;omega,by unfold fit;dsimp only;rw[DI];omega,by unfold fit;dsimp only;omega⟩
theorem aI8 (hf0:0≤f) (hf:f≤10) (hk:k.length≤20000) (hv:v.length≤20000) (hen:ends.length≤10000):H4 tag cms fds es ends cm fl fd ids once fm dm hs ht src st op at0 idx tz f k v bad:=by
 have:f=0∨f=1∨f=2∨f=3∨f=4∨f=5∨f=6∨f=7∨f=8∨f=9∨f=10:=by omega
 have hr:(f=3∨f=8∨f=10)→∃rr,yE (ends,at0,idx,tag,cms,fds,es,[],src,[],cm,qH fl,st,fd,hs,ht,op) (f,k,v,bad)=some rr∧rr.1=3:=by
  intro hh
  unfold yE
  dsimp only
  rw[if_neg (H5 hne),if_neg (by rcases hh with rfl|rfl|rfl<;>simp),if_neg (by rcases hh with rfl|rfl|rfl<;>simp),if_pos (by rcases hh with rfl|rfl|rfl<;>simp)]
  exact⟨_,rfl,rfl⟩
 rcases this with rfl|rfl|rfl|rfl|rfl|rfl|rfl|rfl|rfl|rfl|rfl
 ·exact aCn h hne (.inl rfl)
 ·exact aCn h hne (.inr rfl)
 ·exact MY h hne (.inl rfl) hk hv
 ·refine MX h hne ?_ (hr (.inl rfl))
  cases bad
  ·rw[show qB 3 k v false=(if yB v=true then((4:Int),([]:List UInt8),v) else(0,[],[])) from rfl]
   split
   ·exact .inr (.inl rfl)
   ·exact .inl rfl
  ·exact .inl rfl
 ·exact MY h hne (.inr (.inl rfl)) hk hv
 ·exact MY h hne (.inr (.inr (.inl rfl))) hk hv
 ·exact MY h hne (.inr (.inr (.inr (.inl rfl)))) hk hv
 ·exact MY h hne (.inr (.inr (.inr (.inr rfl)))) hk hv
 ·exact MX h hne (.inr (.inr rfl)) (hr (.inr (.inl rfl)))
 ·exact aI7 h hne hk hen
 ·exact MX h hne (.inl (by rw[JN])) (hr (.inr (.inr rfl)))
end
end Go.Proofs.YtfchbnahjcdiiaaGreatDoor
namespace Go.Proofs.YtfchbnahjcdiiaaGreatDoor
open Vc
set_option maxRecDepth 100000
def vH (ends:List Int) (a i:Int) (tag:List UInt8) (cms:List (List UInt8)) (fds:List Fld) (es:List dT1) (src:List UInt8) (cm:List (List UInt8)) (fl:List (List UInt8)) (st:Int) (fd:List Fld) (hs ht:Bool) (op:Int):RS:=
  (ends,a,i,tag,cms,fds,es,[],src,[],cm,qH fl,st,fd,hs,ht,op)
section
variable {tag:List UInt8}{cms:List (List UInt8)}{fds:List Fld}{es:List dT1}{ends:List Int}{cm:List (List UInt8)}{fl:List (List UInt8)}{fd:List Fld}{ids:List (List UInt8×Bool)}{once:List (Int×Bool)}{fm dm:List (List UInt8×Bool)}{hs ht:Bool}
variable {src:List UInt8}{st op:Int}
def aI9 (ends:List Int) (e:Int) (x:PS) (y:RS) (a i tz:Int):Prop:=
  ∃ tag' cms' fds' es' ends' cm' fl' fd' ids' once' fm' dm' hs' ht' src' st' op',x=xP tag' cms' fds' es' (!decide (ends'=[])) ends' cm' src' st' fd' op' ids' once' fm' dm' fl'∧
    y=vH ends' a i tag' cms' fds' es' src' cm' fl' st' fd' hs' ht' op'∧SI tag' cms' fds' es' ends' cm' fl' fd' ids' once' fm' dm' hs' ht'∧(ends'=ends∨ends'=ends++[tz])
theorem aJa (h:SI tag cms fds es ends cm fl fd ids once fm dm hs ht) (hen:ends.length≤10000) {line:List UInt8}(hl:line.length≤5000) {a i:Nat}(ha:a≤10000) {ls:List (List UInt8)}(hi:i<ls.length) (hli:ls[i]=line) (hi2:i≤10000):
    ∃ e x,DJ ((a:Int),line) (xP tag cms fds es (!decide (ends=[])) ends cm src st fd op ids once fm dm fl)=some (e,x)∧
      ((e≠0∧y8 ls (vH ends a i tag cms fds es src cm fl st fd hs ht op)=some (.inr (.inr ([],[],[],[],[],(a:Int),e))))∨
       (e=0∧∃y,y8 ls (vH ends a i tag cms fds es src cm fl st fd hs ht op)=some (.inl y)∧aI9 ends e x y ((a:Int)+(line.length:Int)) ((i:Int)+1) ((a:Int)+(line.length:Int)))):=by
  obtain⟨f,k,v,bad,h1,h2,h3,h4,h5,h6⟩:=aIN hl
  have hto:i64 ((a:Int)+(line.length:Int)):=by unfold i64;omega
  rw[aIZ (b:=vH ends a i tag cms fds es src cm fl st fd hs ht op) (i:=i) rfl hi (by omega) (by rw[hli];exact hto),hli,h1,Option.bind_some]
  have hfl:fit line:=by unfold fit;omega
  have h2':yA (Lib.trimLeftS (tE 10 line) [32,9])=some (qB f k v bad):=h2
  by_cases hne:ends=[]
  · subst hne
    obtain⟨rp,rr,g1,g2,g3⟩:=aI5 (src:=src) (st:=st) (op:=op) (tz:=(a:Int)+(line.length:Int)) (bad:=bad) h h5 h6 h3 h4
    have hc:DJ ((a:Int),line) (xP tag cms fds es (!decide (([]:List Int)=[])) [] cm src st fd op ids once fm dm fl)=some (rp.1,rp.2.1,rp.2.2.1,rp.2.2.2.1,es,rp.2.2.2.2.1,rp.2.2.2.2.2.1,rp.2.2.2.2.2.2.1,rp.2.2.2.2.2.2.2.1,rp.2.2.2.2.2.2.2.2.1,rp.2.2.2.2.2.2.2.2.2.1,rp.2.2.2.2.2.2.2.2.2.2.1,rp.2.2.2.2.2.2.2.2.2.2.2.1,rp.2.2.2.2.2.2.2.2.2.2.2.2.1,rp.2.2.2.2.2.2.2.2.2.2.2.2.2.1,ids,rp.2.2.2.2.2.2.2.2.2.2.2.2.2.2.1,rp.2.2.2.2.2.2.2.2.2.2.2.2.2.2.2.1,rp.2.2.2.2.2.2.2.2.2.2.2.2.2.2.2.2.1,rp.2.2.2.2.2.2.2.2.2.2.2.2.2.2.2.2.2):=by
      unfold DJ xP
      dsimp only
      rw[a39 hfl,Option.bind_some,h2',Option.bind_some,if_neg (by simp),if_pos hto]
      rw[show (!decide (([]:List Int)=[]))=false by simp,g1,Option.bind_some]
    have hr:yE (vH [] a i tag cms fds es src cm fl st fd hs ht op) (f,k,v,bad)=some (rr.2.2.2.2.2.2.2.2.2.2.2.2.2.2,rr.2.2.2.2.2.2.2.2.2.2.2.2.2.1,rr.1,rr.2.1,rr.2.2.1,es,rr.2.2.2.1,rr.2.2.2.2.1,rr.2.2.2.2.2.1,rr.2.2.2.2.2.2.1,rr.2.2.2.2.2.2.2.1,rr.2.2.2.2.2.2.2.2.1,rr.2.2.2.2.2.2.2.2.2.1,rr.2.2.2.2.2.2.2.2.2.2.1,rr.2.2.2.2.2.2.2.2.2.2.2.1,rr.2.2.2.2.2.2.2.2.2.2.2.2.1):=by
      unfold yE vH
      dsimp only
      rw[if_pos (by simp),g2,Option.bind_some]
    refine⟨_,_,hc,?_⟩
    rw[hr,Option.bind_some]
    rcases g3 with⟨e1,e2⟩ |⟨tag',cms',fds',cm',src',st',fd',op',once',fm',dm',fl',hs',ht',dn,rfl,rfl,hS⟩
    · dsimp only
      rw[e2,if_pos (by simpa using e1)]
      exact .inl ⟨e1,rfl⟩
    · dsimp only
      rw[if_neg (show¬(!decide ((0:Int)=0))=true by decide)]
      cases dn with
      | true=>
        rw[if_pos rfl,if_pos (by show ((vH [] (a:Int) (i:Int) tag cms fds es src cm fl st fd hs ht op).1.length+1)*8≤_;unfold vH;simp)]
        exact .inr ⟨rfl,_,rfl,tag',cms',fds',es,[(a:Int)+(line.length:Int)],cm',fl',fd',ids,once',fm',dm',hs',ht',src',st',op',rfl,rfl,hS,.inr rfl⟩
      | false=>
        rw[if_neg Bool.false_ne_true]
        exact .inr ⟨rfl,_,rfl,tag',cms',fds',es,[],cm',fl',fd',ids,once',fm',dm',hs',ht',src',st',op',rfl,rfl,hS,.inl rfl⟩
  · obtain⟨rp,rr,g1,g2,g3⟩:=aI8 (src:=src) (st:=st) (op:=op) (at0:=(a:Int)) (idx:=(i:Int)) (tz:=(a:Int)+(line.length:Int)) (bad:=bad) h hne h5 h6 h3 h4 hen
    have hin:(!decide (ends=[]))=true:=by simpa using hne
    have hc:DJ ((a:Int),line) (xP tag cms fds es (!decide (ends=[])) ends cm src st fd op ids once fm dm fl)=some (rp.1,tag,cms,fds,rp.2.1,true,rp.2.2.1,rp.2.2.2.2.1,rp.2.2.2.2.2.1,rp.2.2.2.2.2.2.1,rp.2.2.2.2.2.2.2.1,rp.2.2.2.2.2.2.2.2.1,rp.2.2.2.2.2.2.2.2.2.1,rp.2.2.2.2.2.2.2.2.2.2.1,rp.2.2.2.2.2.2.2.2.2.2.2.1,rp.2.2.2.1,rp.2.2.2.2.2.2.2.2.2.2.2.2.1,rp.2.2.2.2.2.2.2.2.2.2.2.2.2.1,rp.2.2.2.2.2.2.2.2.2.2.2.2.2.2.1,rp.2.2.2.2.2.2.2.2.2.2.2.2.2.2.2):=by
      rw[hin]
      unfold DJ xP
      dsimp only
      rw[a39 hfl,Option.bind_some,h2',Option.bind_some,if_pos rfl,if_pos hto,g1,Option.bind_some]
    refine⟨_,_,hc,?_⟩
    have g2':yE (vH ends a i tag cms fds es src cm fl st fd hs ht op) (f,k,v,bad)=some rr:=g2
    rw[g2',Option.bind_some]
    rcases g3 with⟨e1,e2⟩ |⟨es',ids',cm',src',st',fd',op',once',fm',dm',fl',hs',ht',dn,rfl,rfl,hS⟩
    · rw[e2,if_pos (by simpa using e1)]
      exact .inl ⟨e1,rfl⟩
    · dsimp only
      rw[if_neg (show¬(!decide ((0:Int)=0))=true by decide)]
      cases dn with
      | true=>
        rw[if_pos rfl,if_pos (by show ((vH ends (a:Int) (i:Int) tag cms fds es src cm fl st fd hs ht op).1.length+1)*8≤_;unfold vH;dsimp only;omega)]
        exact .inr ⟨rfl,_,rfl,tag,cms,fds,es',ends++[(a:Int)+(line.length:Int)],cm',fl',fd',ids',once',fm',dm',hs',ht',src',st',op',by rw[show (!decide (ends++[(a:Int)+(line.length:Int)]=[]))=true by simp];rfl,rfl,hS,.inr rfl⟩
      | false=>
        rw[if_neg Bool.false_ne_true]
        have he:ends++(if false=true then[(a:Int)+(line.length:Int)] else[])=ends:=by simp
        rw[he] at hS⊢
        exact .inr ⟨rfl,_,rfl,tag,cms,fds,es',ends,cm',fl',fd',ids',once',fm',dm',hs',ht',src',st',op',by rw[hin];rfl,rfl,hS,.inl rfl⟩
end
def aCo (s:List UInt8) (ls:List (List UInt8)) (l:List (Int×List UInt8)) (x:PS) (y:RS):Prop:=
  (∃e at1:Int,e≠0∧uZ EY l x=none∧uZ EZ l x=some (.inr (at1,e))∧pF (y8 ls) y=some (.inr ([],[],[],[],[],at1,e)))∨
  (∃tag' cms' fds' es' ends' cm' fl' fd' ids' once' fm' dm' hs' ht' src' st' op',uZ EY l x=some (.inl (xP tag' cms' fds' es' (!decide (ends'=[])) ends' cm' src' st' fd' op' ids' once' fm' dm' fl'))∧
    uZ EZ l x=some (.inl (xP tag' cms' fds' es' (!decide (ends'=[])) ends' cm' src' st' fd' op' ids' once' fm' dm' fl'))∧
    pF (y8 ls) y=some (.inl (ends',tag',cms',fds',es',[],src',[],cm',qH fl',st',fd',hs',ht',op'))∧SI tag' cms' fds' es' ends' cm' fl' fd' ids' once' fm' dm' hs' ht'∧(ends'=[]∨F8 s.length ends')∧ends'.length≤s.length)
theorem kR {s:List UInt8}(hs0:s.length≤5000): ∀(n a i:Nat) {tag:List UInt8}{cms:List (List UInt8)}{fds:List Fld}{es:List dT1}{ends:List Int}{cm:List (List UInt8)}{fl:List (List UInt8)}{fd:List Fld}{ids:List (List UInt8×Bool)}{once:List (Int×Bool)}{fm dm:List (List UInt8×Bool)}{hs ht:Bool}{src:List UInt8}{st op:Int},
    a≤s.length→s.length≤n+a→(tC s).drop i=sN s n a→i≤a→SI tag cms fds es ends cm fl fd ids once fm dm hs ht→(ends=[]∨F8 a ends)→ends.length≤i→
    aCo s ((tC s).map (·.2)) (sN s n a) (xP tag cms fds es (!decide (ends=[])) ends cm src st fd op ids once fm dm fl) (vH ends a i tag cms fds es src cm fl st fd hs ht op):=by
  intro n
  induction n with
  | zero=>
    intro a i tag cms fds es ends cm fl fd ids once fm dm hs ht src st op ha hn hd hia h hea hei
    have hlen:(tC s).length≤i:=by
      have:=congrArg List.length hd
      rw[List.length_drop,show sN s 0 a=[] from rfl,List.length_nil] at this
      omega
    have hst:y8 ((tC s).map (·.2)) (vH ends a i tag cms fds es src cm fl st fd hs ht op)=some (.inr (.inl (ends,tag,cms,fds,es,[],src,[],cm,qH fl,st,fd,hs,ht,op))):=by
      unfold y8 vH
      dsimp only
      rw[if_neg (by simp;omega)]
    refine .inr ⟨tag,cms,fds,es,ends,cm,fl,fd,ids,once,fm,dm,hs,ht,src,st,op,rfl,rfl,tH hst,h,?_,by omega⟩
    rcases hea with h1|h1
    ·exact .inl h1
    ·exact .inr (a33 h1 ha)
  | succ n ih=>
    intro a i tag cms fds es ends cm fl fd ids once fm dm hs ht src st op ha hn hd hia h hea hei
    by_cases hlt:a<s.length
    · have hto:=a7w hlt
      have hl:sN s (n+1) a=((a:Int),(s.drop a).take (sF s a-a))::sN s n (sF s a):=by rw[sN,if_pos hlt]
      rw[hl] at hd⊢
      have hil:i<(tC s).length:=by
        have:=congrArg List.length hd
        rw[List.length_drop,List.length_cons] at this
        omega
      have hget:(tC s)[i]=((a:Int),(s.drop a).take (sF s a-a)):=by
        have:=List.drop_eq_getElem_cons hil
        rw[hd] at this
        exact(List.cons.inj this).1.symm
      have hd2:(tC s).drop (i+1)=sN s n (sF s a):=by
        have:=List.drop_eq_getElem_cons hil
        rw[hd] at this
        exact(List.cons.inj this).2.symm
      have hlen:((s.drop a).take (sF s a-a)).length=sF s a-a:=by rw[List.length_take,List.length_drop];omega
      have hi2:i<((tC s).map (·.2)).length:=by rw[List.length_map];exact hil
      have hli:((tC s).map (·.2))[i]=(s.drop a).take (sF s a-a):=by rw[List.getElem_map,hget]
      obtain⟨e,x,hc,hres⟩:=aJa (src:=src) (st:=st) (op:=op) h (by omega) (line:=(s.drop a).take (sF s a-a)) (by omega) (a:=a) (i:=i) (by omega) hi2 hli (by omega)
      rcases hres with⟨he,hr⟩ |⟨rfl,y,hr,tag',cms',fds',es',ends',cm',fl',fd',ids',once',fm',dm',hs',ht',src',st',op',rfl,rfl,hS,hE⟩
      · refine .inl ⟨e,(a:Int),he,?_,?_,tH hr⟩
        · unfold uZ
          rw[aCi,hc,Option.bind_some,if_pos (by simpa using he)]
          rfl
        · unfold uZ
          rw[aCj,hc,Option.bind_some,if_pos (by simpa using he)]
          rfl
      · have hto2:(a:Int)+(((s.drop a).take (sF s a-a)).length:Int)=((sF s a:Nat):Int):=by rw[hlen];omega
        rw[hto2] at hr hE
        have hnext:=ih (sF s a) (i+1) (src:=src') (st:=st') (op:=op') hto.2 (by omega) hd2 (by omega) hS (by
          rcases hE with rfl|rfl
          · rcases hea with h1|h1
            ·exact .inl h1
            ·exact .inr (a33 h1 (by omega))
          · rcases hea with rfl|h1
            ·exact .inr (aIr _)
            ·exact .inr (aIq h1 (by omega))) (by
          rcases hE with rfl|rfl
          ·omega
          ·simp;omega)
        have hr2:pF (y8 ((tC s).map (·.2))) (vH ends a i tag cms fds es src cm fl st fd hs ht op)=pF (y8 ((tC s).map (·.2))) (vH ends' (sF s a:Nat) ((i+1:Nat):Int) tag' cms' fds' es' src' cm' fl' st' fd' hs' ht' op'):=CF hr
        have f1:uZ EY (((a:Int),(s.drop a).take (sF s a-a))::sN s n (sF s a)) (xP tag cms fds es (!decide (ends=[])) ends cm src st fd op ids once fm dm fl)=uZ EY (sN s n (sF s a)) (xP tag' cms' fds' es' (!decide (ends'=[])) ends' cm' src' st' fd' op' ids' once' fm' dm' fl'):=by
          rw[uZ,aCi,hc,Option.bind_some]
          dsimp only
          rw[if_neg (show¬(!decide ((0:Int)=0))=true by decide)]
          rfl
        have f2:uZ EZ (((a:Int),(s.drop a).take (sF s a-a))::sN s n (sF s a)) (xP tag cms fds es (!decide (ends=[])) ends cm src st fd op ids once fm dm fl)=uZ EZ (sN s n (sF s a)) (xP tag' cms' fds' es' (!decide (ends'=[])) ends' cm' src' st' fd' op' ids' once' fm' dm' fl'):=by
          rw[uZ,aCj,hc,Option.bind_some]
          dsimp only
          rw[if_neg (show¬(!decide ((0:Int)=0))=true by decide)]
          rfl
        unfold aCo at hnext⊢
        rw[f1,f2,hr2]
        exact hnext
    · have hl:sN s (n+1) a=sN s 0 a:=by rw[RX (by omega),RX (by omega)]
      have hlen:(tC s).length≤i:=by
        rw[hl] at hd
        have:=congrArg List.length hd
        rw[List.length_drop,show sN s 0 a=[] from rfl,List.length_nil] at this
        omega
      have hst:y8 ((tC s).map (·.2)) (vH ends a i tag cms fds es src cm fl st fd hs ht op)=some (.inr (.inl (ends,tag,cms,fds,es,[],src,[],cm,qH fl,st,fd,hs,ht,op))):=by
        unfold y8 vH
        dsimp only
        rw[if_neg (by simp;omega)]
      rw[hl]
      refine .inr ⟨tag,cms,fds,es,ends,cm,fl,fd,ids,once,fm,dm,hs,ht,src,st,op,rfl,rfl,tH hst,h,?_,by omega⟩
      rcases hea with h1|h1
      ·exact .inl h1
      ·exact .inr (a33 h1 ha)
theorem aJc {s:List UInt8}(hs0:s.length≤5000): ∃v,y9 s=some v∧fit v.2.1∧fit v.2.2.1∧fit v.2.2.2.1∧(∀y∈v.2.2.2.1,EntFit y)∧
    ((v.2.2.2.2.2.2≠0∧v.1=[]∧v.2.1=[]∧v.2.2.1=[]∧v.2.2.2.1=[]∧qY s=none∧DD s=some (v.2.2.2.2.2.1,v.2.2.2.2.2.2))∨
     (v.2.2.2.2.2.2=0∧v.2.2.2.2.2.1=0∧F8 s.length v.2.2.2.2.1∧v.2.2.2.2.1.length≤s.length∧∃r,qY s=some r∧r.1=v.1∧r.2.1=v.2.1∧r.2.2.1=v.2.2.1∧r.2.2.2.1=v.2.2.2.1∧r.2.2.2.2.2.1=v.2.2.2.2.1)):=by
  have hSI:SI [] [] [] [] [] [] [] [] [] [] [] [] false false:=⟨a4f,fun _=>rfl,fun _=>rfl,by decide,fun _ hh=>by(cases hh),AZ,AZ⟩
  have hsim:=kR hs0 s.length 0 0 (src:=[]) (st:=0) (op:= -1) (Nat.zero_le _) (by omega) (by rw[List.drop_zero];rfl) (Nat.le_refl _) hSI (.inl rfl) (Nat.le_refl _)
  have hs4:qH []=[]:=List.length_eq_zero_iff.1 (DI [])
  have hx:xP [] [] [] [] (!decide (([]:List Int)=[])) [] [] [] 0 [] (-1) [] [] [] [] []=(([]:List UInt8),([]:List (List UInt8)),([]:List p8),([]:List dT1),false,([]:List Int),([]:List (List UInt8)),([]:List UInt8),([]:List UInt8),([]:List UInt8),([]:List (List UInt8)),(0:Int),([]:List p8),(-1:Int),([]:List ((List UInt8)×Bool)),([]:List (Int×Bool)),([]:List ((List UInt8)×Bool)),([]:List ((List UInt8)×Bool)),([]:List (List UInt8))):=by
    rw[show (!decide (([]:List Int)=[]))=false by simp]
    rfl
  have hy:vH [] (0:Nat) (0:Nat) [] [] [] [] [] [] [] 0 [] false false (-1)=(([]:List Int),(0:Int),(0:Int),([]:List UInt8),([]:List (List UInt8)),([]:List p8),([]:List dT1),([]:List UInt8),([]:List UInt8),([]:List UInt8),([]:List (List UInt8)),([]:List (List UInt8)),(0:Int),([]:List p8),false,false,(-1:Int)):=by
    unfold vH
    rw[hs4]
    rfl
  rw[hx,hy] at hsim
  have hlI:sN s s.length 0=tC s:=rfl
  rw[hlI] at hsim
  unfold y9 qY DD
  rw[aIS (by omega),Option.bind_some,if_pos (by omega),if_pos (by omega)]
  rcases hsim with⟨e,at1,he,h1,h2,h3⟩ |⟨tag',cms',fds',es',ends',cm',fl',fd',ids',once',fm',dm',hs',ht',src',st',op',h1,h2,h3,h4,h5,h6⟩
  · rw[h1,h2,h3]
    exact⟨_,rfl,AZ,AZ,AZ,fun _ hh=>by(cases hh),.inl ⟨he,rfl,rfl,rfl,rfl,rfl,rfl⟩⟩
  · rw[h1,h2,h3]
    unfold xP
    simp only[qP,Option.bind_some]
    by_cases hn:ends'=[]
    · rw[if_pos (by rw[hn];rfl),if_pos (by rw[hn];rfl),if_pos (by rw[hn];rfl)]
      exact⟨_,rfl,AZ,AZ,AZ,fun _ hh=>by(cases hh),.inl ⟨show (3:Int)≠0 by decide,rfl,rfl,rfl,rfl,rfl,rfl⟩⟩
    · have hl0: ¬decide ((List.length ends':Int)=0)=true:=H5 hn
      have hd:(!(!decide (ends'=[])))=false:=by simpa using hn
      rw[if_neg hl0,hd]
      simp only[Bool.false_eq_true,↓reduceIte]
      by_cases ho:decide (0≤op')=true
      · simp only[ho,↓reduceIte]
        exact⟨_,rfl,AZ,AZ,AZ,fun _ hh=>by(cases hh),.inl ⟨show (3:Int)≠0 by decide,(by first|rfl|trivial),(by first|rfl|trivial),(by first|rfl|trivial),(by first|rfl|trivial),(by first|rfl|trivial),(by first|rfl|trivial)⟩⟩
      · simp only[ho,Bool.false_eq_true,↓reduceIte]
        have hen:=h4.en
        exact⟨_,rfl,h4.cf,h4.ff,by unfold fit;dsimp only;omega,h4.ef,.inr ⟨(by first|rfl|trivial),(by first|rfl|trivial),h5.resolve_left hn,h6,_,rfl,(by first|rfl|trivial),(by first|rfl|trivial),(by first|rfl|trivial),(by first|rfl|trivial),(by first|rfl|trivial)⟩⟩
end Go.Proofs.YtfchbnahjcdiiaaGreatDoor
namespace Go.Proofs.YtfchbnahjcdiiaaGreatDoor
open Vc
set_option maxRecDepth 1000000
theorem aJd:J4=some true:=by kernel_rfl
end Go.Proofs.YtfchbnahjcdiiaaGreatDoor
namespace Go.Proofs.YtfchbnahjcdiiaaGreatDoor
open Vc
set_option maxRecDepth 1000000
end Go.Proofs.YtfchbnahjcdiiaaGreatDoor
namespace Go.Proofs.YtfchbnahjcdiiaaGreatDoor
open Vc
set_option maxRecDepth 100000
theorem RY {σ ρ:Type}{f:σ→Option (σ⊕ρ)}{n:Nat}(st:Nat→σ) {r:ρ}(h: ∀i,i<n→f (st i)=some (.inl (st (i+1)))) (he:f (st n)=some (.inr r)): ∀(k i:Nat),i+k=n→pF f (st i)=some r
 |0,i,hi=>by
  have:i=n:=by omega
  subst this
  exact BW he
 |k+1,i,hi=>by
  rw[RT (h i (by omega))]
  exact RY st h he k (i+1) (by omega)
abbrev pc (s:List UInt8) (l:List Nat) (i:Nat):List UInt8:=oV s ((if i=0 then 0 else l.getD (i-1) 0:Nat):Int) (l.getD i 0:Nat)
abbrev wZ (s:List UInt8) (l:List Nat):List (List UInt8):=(List.range l.length).map (pc s l)
abbrev w7 (l:List Nat):Nat:=l.getD (l.length-1) 0
section
variable {s:List UInt8}(hsm:s.length≤5000) {l:List Nat}(hne:l≠[]) (hs:l.Pairwise (·≤·)) (hle: ∀x∈l,x≤s.length) (hl:l.length≤5000)
theorem MZ {i:Nat}(h:i<l.length):pX (.int .i64) (l.map (fun n:Nat=>(n:Int))) (i:Int)=(l.getD i 0:Nat):=by
 rw[vO (t:= .int .i64) (by simpa using h),List.getElem_map,List.getD_eq_getElem?_getD,List.getElem?_eq_getElem h]
 rfl
include hle in
theorem N0 {i:Nat}(h:i<l.length):l.getD i 0≤s.length:=by
 rw[List.getD_eq_getElem?_getD,List.getElem?_eq_getElem h]
 exact hle _ (List.getElem_mem h)
include hs in
theorem aCp {i j:Nat}(hij:i<j) (h:j<l.length):l.getD i 0≤l.getD j 0:=by
 rw[List.getD_eq_getElem?_getD,List.getD_eq_getElem?_getD,List.getElem?_eq_getElem h,List.getElem?_eq_getElem (by omega)]
 exact(List.pairwise_iff_getElem.1 hs) i j (by omega) h hij
include hs in
theorem aJe {i:Nat}(h:i<l.length):(if i=0 then 0 else l.getD (i-1) 0)≤l.getD i 0:=by
 split
 ·exact Nat.zero_le _
 ·exact aCp hs (by omega) h
include hsm hne hs hle hl in
theorem aJf:D2 s (l.map (fun n:Nat=>(n:Int)))=some (pc s l 0,(wZ s l).drop 1,oV s (w7 l:Nat) (s.length:Int)):=by
 have hpos:0<l.length:=List.length_pos_iff.2 hne
 have hloop:=RY (f:=LX s (l.map (fun n:Nat=>(n:Int)))) (n:=l.length) (fun i=>((List.range i).map (pc s l),((if i=0 then 0 else l.getD (i-1) 0:Nat):Int),(i:Int))) (r:=(wZ s l,(w7 l:Int)))
  (fun i hi=>by
   have h1:=N0 hle hi
   have h2:=aJe hs hi
   unfold LX
   dsimp only
   rw[List.length_map,if_pos (sH hi),if_pos (qD hi),MZ hi,if_pos ⟨Int.natCast_nonneg _,Int.ofNat_le.2 h2,Int.ofNat_le.2 h1⟩,if_pos (by rw[List.length_map,List.length_range,List.length_singleton];omega),if_pos (qD hi),if_pos (qW (by omega))]
   rw[List.range_succ,List.map_append,if_neg (Nat.succ_ne_zero i),Nat.add_sub_cancel]
   rfl)
  (by
   unfold LX
   dsimp only
   rw[List.length_map,if_neg (wH _),if_neg (by omega)]) l.length 0 (by omega)
 have hlast:w7 l≤s.length:=N0 hle (show l.length-1<l.length by omega)
 unfold D2
 rw[show (([]:List (List UInt8)),(0:Int),(0:Int))=((List.range 0).map (pc s l),((if 0=0 then 0 else l.getD (0-1) 0:Nat):Int),((0:Nat):Int)) from rfl,hloop]
 unfold pW
 rw[Option.bind_some]
 dsimp only
 have hlen:(wZ s l++[oV s (w7 l:Nat) (s.length:Int)]).length=l.length+1:=by simp
 rw[if_pos ⟨by omega,by omega,Int.le_refl _⟩,if_pos (by simp;omega)]
 have hOf:IC (wZ s l++[oV s (w7 l:Nat) (s.length:Int)])=some ():=by
  unfold IC
  rw[hlen,if_pos (by unfold i64;omega),if_pos ⟨by omega,by omega⟩,if_pos ⟨by omega,by omega,by omega⟩]
  rw[if_pos (by
   have:(oV (wZ s l++[oV s (w7 l:Nat) (s.length:Int)]) 1 (((l.length+1:Nat):Int)-1)).length≤l.length+1:=by
    have h9:=hlen
    unfold oV at h9⊢
    rw[List.length_take,List.length_drop,h9]
    omega
   simp only[List.length_nil]
   omega),if_pos ⟨by omega,by omega⟩]
 rw[hOf,Option.bind_some]
 have e0:pX .str (wZ s l++[oV s (w7 l:Nat) (s.length:Int)]) (0:Int)=pc s l 0:=by
  have h:=vO (t:= .str) (l:=wZ s l++[oV s (w7 l:Nat) (s.length:Int)]) (i:=0) (by rw[hlen];omega)
  refine h.trans ?_
  rw[List.getElem_append_left (by simpa using hpos),List.getElem_map,List.getElem_range]
 have e1:pX .str (wZ s l++[oV s (w7 l:Nat) (s.length:Int)]) (((l.length+1:Nat):Int)-1)=oV s (w7 l:Nat) (s.length:Int):=by
  have h:=vO (t:= .str) (l:=wZ s l++[oV s (w7 l:Nat) (s.length:Int)]) (i:=l.length) (by rw[hlen];omega)
  rw[show (((l.length+1:Nat):Int)-1)=((l.length:Nat):Int) by omega]
  refine h.trans ?_
  rw[List.getElem_append_right (by simp)]
  simp
 have e2:oV (wZ s l++[oV s (w7 l:Nat) (s.length:Int)]) (1:Int) (((l.length+1:Nat):Int)-1)=(wZ s l).drop 1:=by
  rw[show (((l.length+1:Nat):Int)-1)=((l.length:Nat):Int) by omega]
  generalize oV s (w7 l:Nat) (s.length:Int)=z
  unfold oV
  rw[Int.toNat_natCast,show (1:Int).toNat=1 from rfl,List.drop_append_of_le_length (by simp;omega),List.take_left' (by simp)]
 rw[hlen,e0,e1,e2]
 rfl
end
theorem aJg (d:uF) (h:d.2.1.length≤5000):D3 d d=some ([],0):=by
 have hn:((([d.1]:List (List UInt8))++d.2.1)++([d.2.2.1]:List (List UInt8))).length=d.2.1.length+2:=by simp
 have hA:G9 d=some ():=by
  unfold G9
  rw[if_pos (by simp;omega),if_pos (by simp;omega)]
 have hloop:=RY (f:=LY d d) (n:=d.2.1.length+2) (fun i=>(([]:List (Int×List UInt8×Unit)),(i:Int))) (r:=[])
  (fun i hi=>by
   unfold LY
   dsimp only
   rw[hn,if_pos (sH hi),if_pos (qD hi),if_pos (qD hi),if_neg (by simp),if_pos (qW (by omega))]
   rfl)
  (by
   unfold LY
   dsimp only
   rw[hn,if_neg (wH _)]) (d.2.1.length+2) 0 (by omega)
 unfold D3
 rw[if_neg (by simp),hA,Option.bind_some,Option.bind_some,show (([]:List (Int×List UInt8×Unit)),(0:Int))=(([]:List (Int×List UInt8×Unit)),((0:Nat):Int)) from rfl,hloop]
 rfl
theorem aCq (d:uF) (h:d.2.1.length≤5000):EU d d=some true:=by
 unfold EU
 rw[aJg d h]
 rfl
end Go.Proofs.YtfchbnahjcdiiaaGreatDoor
namespace Go.Proofs.YtfchbnahjcdiiaaGreatDoor
open Vc
set_option maxRecDepth 1000000
section
variable {s:List UInt8}(hsm:s.length≤5000) {l:List Nat}(hne:l≠[]) (hs:l.Pairwise (·≤·)) (hle: ∀x∈l,x≤s.length) (hl:l.length≤5000)
include hsm hne hs hle hl
theorem aJh {r:PS}(hr:r.2.2.2.2.2.1=l.map (fun n:Nat=>(n:Int))):pF (J5 s r) (1,[])=some ((wZ s l).drop 1):=by
 have hpos:0<l.length:=List.length_pos_iff.2 hne
 have hloop:=RY (f:=J5 s r) (n:=l.length-1) (fun i=>(((i+1:Nat):Int),((List.range (i+1)).map (pc s l)).drop 1)) (r:=(wZ s l).drop 1)
  (fun i hi=>by
   have h1:=N0 hle (show i+1<l.length by omega)
   have h2:=aCp hs (show i<i+1 by omega) (show i+1<l.length by omega)
   unfold J5
   dsimp only
   rw[hr,List.length_map,if_pos (sH (by omega)),if_pos (by unfold i64;omega),show (((i+1:Nat):Int)-1)=(i:Int) by omega,if_pos (qD (by omega)),if_pos (qD (by omega)),MZ (show i<l.length by omega),MZ (show i+1<l.length by omega),if_pos ⟨Int.natCast_nonneg _,Int.ofNat_le.2 h2,Int.ofNat_le.2 h1⟩,if_pos (by rw[List.length_drop,List.length_map,List.length_range,List.length_singleton];omega),if_pos (qW (by omega))]
   rw[List.range_succ (n:=i+1),List.map_append,List.drop_append_of_le_length (by simp)]
   rfl)
  (by
   unfold J5
   dsimp only
   rw[hr,List.length_map,show l.length-1+1=l.length by omega,if_neg (wH _)]) (l.length-1) 0 (by omega)
 exact hloop
theorem aJi {r:PS}(h:qY s=some r) (hr:r.2.2.2.2.2.1=l.map (fun n:Nat=>(n:Int))):
  zW s=some (pc s l 0,(wZ s l).drop 1,oV s (w7 l:Nat) (s.length:Int),0):=by
 have hpos:0<l.length:=List.length_pos_iff.2 hne
 have h0:=N0 hle hpos
 have hlast:w7 l≤s.length:=N0 hle (show l.length-1<l.length by omega)
 unfold zW
 rw[h,if_pos (show (some r).isSome=true from rfl),Option.bind_some,if_neg (show¬(!decide ((0:Int)=0))=true by decide),aJh hsm hne hs hle hl hr,hr,List.length_map,if_pos ⟨Int.le_refl _,by omega⟩]
 have n0:pX (.int .i64) (l.map (fun n:Nat=>(n:Int))) (0:Int)=(l.getD 0 0:Nat):=MZ hpos
 have n1:pX (.int .i64) (l.map (fun n:Nat=>(n:Int))) ((l.length:Int)-1)=(w7 l:Nat):=by
  rw[show ((l.length:Int)-1)=((l.length-1:Nat):Int) by omega]
  exact MZ (by omega)
 rw[n0,n1,if_pos ⟨Int.le_refl _,Int.natCast_nonneg _,Int.ofNat_le.2 h0⟩,if_pos (by unfold i64;omega),if_pos ⟨by omega,by omega⟩,if_pos ⟨Int.natCast_nonneg _,Int.ofNat_le.2 hlast,Int.le_refl _⟩]
 rfl
end
theorem aJj (s:List UInt8):GR s=some true:=by
 unfold GR
 rw[aJd,Option.bind_some,if_neg (by decide)]
 by_cases h:decide ((4000:Int)<(List.length s:Int))=true
 ·rw[if_pos h]
 ·rw[if_neg h]
  have hsm:s.length≤5000:=by simp at h;omega
  obtain⟨v,h1,_,_,_,_,h2⟩:=aJc hsm
  rcases h2 with⟨e1,_,_,_,_,p1,p2⟩ |⟨e1,_,⟨l,g1,g2,g3,g4⟩,e5,r,p1,_,_,_,_,q⟩
  ·have hS:zW s=some ([],[],[],v.2.2.2.2.2.2):=by
    unfold zW
    rw[p1,if_neg (by simp),p2,Option.bind_some,if_pos (by simpa using e1)]
   have hR:zV s=some ([],[],[],v.2.2.2.2.2.2):=by
    unfold zV
    rw[h1,Option.bind_some,if_pos (by simpa using e1)]
   rw[hS,hR,Option.bind_some,Option.bind_some]
   have hd:=aCq (([]:List UInt8),(([]:List (List UInt8)),(([]:List UInt8),()))) (by decide)
   dsimp only
   rw[hd,if_pos uB]
   simp [val]
  ·rw[g1,List.length_map] at e5
   have hS:=aJi hsm g2 g3 g4 (by omega) p1 (q.trans g1)
   have hC:=aJf hsm g2 g3 g4 (by omega)
   have hR:zV s=some (pc s l 0,(wZ s l).drop 1,oV s (w7 l:Nat) (s.length:Int),0):=by
    unfold zV
    rw[h1,Option.bind_some,if_neg (by simp [e1]),g1,hC]
    rfl
   rw[hS,hR,Option.bind_some,Option.bind_some]
   have hd:=aCq (pc s l 0,((wZ s l).drop 1,(oV s (w7 l:Nat) (s.length:Int),()))) (by simp;omega)
   dsimp only
   rw[hd,if_pos uB]
   simp [val]
end Go.Proofs.YtfchbnahjcdiiaaGreatDoor
namespace Go.Proofs.YtfchbnahjcdiiaaGreatDoor
open Go.ChangeShapes Go.WideShapes Go.ChangeAt Go.RowKit
section
variable {H:Type}{enc:TypeId×Value→H}{P:Program}
theorem aJk (hl:laidOutB P=true) {W W':World}(hb:Below W.heap.size W W'):
  ∀{ts:List TypeId}{vs:List Value}{ds:List (DataW H)}{ps:List MemPlace},(∀t∈ts,P.readableRec t=true∧t<P.types.size)→
  DataW.TrodAll enc P W 0 (fun _=>true) true ts vs ds ps→(∀x∈ps,x.block<W.heap.size)→
  DataW.TrodAll enc P W' 0 (fun b=>decide (b<W.heap.size)) true ts vs ds ps:=by
 intro ts
 induction ts with
 |nil=>
  intro vs ds ps _ h _
  obtain⟨rfl,rfl,rfl⟩:=trodAll_nil h
  exact trodAll_mk0
 |cons t ts ih=>
  intro vs ds ps hr h hlt
  obtain⟨v,vs',d,ds',p,q,rfl,rfl,rfl,h0,r0⟩:=trodAll_cons h
  exact trodAll_cons_mk (Below.trod hl (hr t (by simp)).1 (hr t (by simp)).2 h0 hb (fun x hx=>hlt x (by simp [hx]))) (ih (fun t' ht'=>hr t' (by simp [ht'])) r0 (fun x hx=>hlt x (by simp [hx])))
theorem aJl {f:Func}{s:ChangeSpec}{W W':World}{args:Array Value}{ds gs:List (DataW H)}{before:List MemPlace}{tb:TypeId}
  (hl:laidOutB P=true) (hr: ∀t∈f.params.toList,P.readableRec t=true∧t<P.types.size)
  (hW:DataW.Whole enc P f.params.toList s.vars false W args.toList ds gs before) (hv:s.vars=[])
  (hfn:s.fn H ds={results:=[.lit (.bool true)],args:=ds}) (hrt:f.resultTypes= #[tb]) (htb:P.underlying tb=some .bool)
  (hb:Below W.heap.size W W'):s.post enc P f false true false false W args (.bool true) W':=by
 have hW':=hW
 obtain⟨p,q,hA,hV,rfl,hfz,hnd⟩:=hW
 rw[hv] at hV
 obtain⟨rfl,rfl⟩:=trodVars_none hV
 have hlt: ∀x∈p,x.block<W.heap.size:=fun x hx=>by simpa using hW'.lt x (by simp [hx])
 refine⟨ds,[],p++[],[],p,[],hW',?_,?_,?_,hb.frame _,fun h=>by cases h⟩
 ·rw[List.append_nil,hfn,hrt]
  exact trodAll_mk1 (shut_bool htb true)
 ·rw[List.append_nil,hfn]
  exact aJk hl hb hr hA hlt
 ·rw[hv,List.append_nil,hfn]
  rfl
end
end Go.Proofs.YtfchbnahjcdiiaaGreatDoor
namespace Go.Proofs.YtfchbnahjcdiiaaGreatDoor
open Go.ChangeShapes Go.WideShapes Go.ChangeAt Go.RowKit
section
variable {H:Type}{enc:TypeId×Value→H}
theorem aJm {C:Checked}{f:FuncId}{fn:Func}{s:ChangeSpec}{tb:TypeId}{BY:List (String×DataW Unit)}(own:ownKnob C.prog.godebug=none) {os:Os}(started:os.Started) (F:Stop.Interp)
  (noInit:C.prog.inits.idxOf? f=none) (hfn:C.prog.funcs[f]? =some fn)
  (hl:laidOutB C.prog=true) (hr: ∀t∈fn.params.toList,C.prog.readableRec t=true∧t<C.prog.types.size) (hv:s.vars=[])
  (hrt:fn.resultTypes= #[tb]) (htb:C.prog.underlying tb=some .bool)
  (hspec: ∀(ds:List (DataW H)) (W:World) (args:Array Value) ps,DataW.TrodAll enc C.prog W 0 (fun _=>true) true fn.params.toList args.toList ds ps→s.fn H ds={results:=[.lit (.bool true)],args:=ds})
  (witness: ∃(w:World) (tape:Tape) (i:Input),w.os=os∧(w.forCall tape i).Shaped C.prog∧i.vars=[]∧Input.okWide C.prog (w.forCall tape i) .any w.heap.size f i∧
   (OpenSpec.ofChange s).preRow enc C.prog fn [] false BY (w.forCall tape i).memory i.args∧Assume.holds {} C.prog (lone (Frame.enter C.prog f i.args .normal) [] (w.forCall tape i)))
  (contract: ∀(W:World) (base:Nat) (args:Array Value) (ds:List (DataW H)) (ps:List MemPlace),
   (∀(j:Nat) t v,fn.params[j]? =some t→args[j]? =some v→Value.okWide C.prog W .any base t v)→
   DataW.TrodAll enc C.prog W 0 (fun _=>true) true fn.params.toList args.toList ds ps→
   (∀x∈ps,x.block<W.heap.size)→laidMetH C.prog BY W→W.ShapedOpen C.prog→
   Calls C.prog f args W fun e W'=>e= .returned (.bool true)∧Below W.heap.size W W'):
  ReturnsInHanded {} C os f .any ((OpenSpec.ofChange s).preRow enc C.prog fn [] false BY) (s.post enc C.prog fn false true false false):=by
 refine returnsInHanded_of_row (C:=C) (s:=OpenSpec.ofChange s) (F:=F) own started noInit hfn witness ?_
 intro W base args ds gs before hval hW _ _ hsz hL hsh _
 have hW':=hW
 obtain⟨p,q,hA,hV,rfl,hfz,hnd⟩:=hW
 have hV':DataW.TrodVars enc C.prog W (fun _=>true) s.vars gs q:=hV
 rw[hv] at hV'
 obtain⟨rfl,rfl⟩:=trodVars_none hV'
 have hlt: ∀x∈p,x.block<W.heap.size:=fun x hx=>by simpa using hW'.lt x (by simp [hx])
 refine(contract W base args ds p hval hA hlt hL hsh).mono fun e W' ⟨he,hb⟩=> ?_
 subst he
 exact⟨_,rfl,aJl hl hr hW' hv (hspec ds W args p hA) hrt htb hb⟩
end
end Go.Proofs.YtfchbnahjcdiiaaGreatDoor
namespace Go.Proofs.YtfchbnahjcdiiaaGreatDoor
open Go.Shelf Go.Lib
open Vc
set_option maxRecDepth 100000
theorem aJn:(Rows.laid_unicode_utf8_first:DataW Unit)=Lib.firstData:=by kernel_rfl
theorem aJo:(Rows.laid_unicode_utf8_acceptRanges:DataW Unit)=Lib.acceptData:=by kernel_rfl
theorem aJp {P:Program}{w:World}{g:Nat}{t:TypeId}{k:IntKind}{zero:Array Value}(h:w.ShapedOpen P) (hg:g<P.globals.size)
  (h0:((begin P (fun _ _=>0) default).world.heap[g]?).bind Obj.row? =some (zero,t)) (hz:zero.size=1)
  (hb:P.buildable t=true) (hc:P.cellTypes P.depth t=some [t]) (hu:P.underlying t=some (.int k)): ∃m,w.cell? ⟨g,0,none⟩=some (.int k m):=by
 obtain⟨cs,hh,hs,hr⟩:=h.1 g zero t hg h0
 obtain⟨ts,hts,_,hall⟩:=hr hb
 rw[hc] at hts
 cases hts
 have h1:0<cs.size:=by omega
 obtain⟨u,hu',hok⟩:=hall 0 cs[0] (by simp [h1])
 have:u=t:=by simpa using hu'.symm
 subst this
 have hcell:w.cell? ⟨g,0,none⟩=some cs[0]:=by simp [World.cell?,hh,h1]
 rw[hcell]
 unfold Cell.ok at hok
 rw[hu] at hok
 cases hv:cs[0]<;>rw[hv] at hok<;>simp at hok
 rename_i k' m
 exact⟨m,by rw[hok.1]⟩
theorem aJq {W:World}(hsh:W.ShapedOpen Tryz.prog): ∃m,W.cell? ⟨0,0,none⟩=some (.int .i64 m):=
 aJp (t:=3) (zero:= #[.int .i64 0]) hsh (of_decide_eq_true (by kernel_rfl)) (by kernel_rfl) rfl (by kernel_rfl) (by kernel_rfl) Tryz.underlying3
def aJr:Ren:=⟨fun x=>x,fun x=>if x=5 then 5 else if x=119 then 224 else if x=138 then 226 else 227,fun x=>if x=3 then 1 else 2⟩
theorem a4g {w:World}{a:Addr}{v:Value}(h:w.cell? a=some v):a.block<w.heap.size:=by
 unfold World.cell? at h
 split at h
 ·rename_i hb;exact(Array.getElem?_eq_some_iff.1 hb).1
 ·cases h
theorem aJs {W:World}(hL:laidMet Tryz.prog Rows.treeParseRow.laid W) (hsh:W.ShapedOpen Tryz.prog):Tabs W:=by
 obtain⟨m,hm⟩:=aJq hsh
 have h1:=laidMet.reads hL (.head _)
 have h2:=laidMet.reads hL (.tail _ (.head _))
 rw[aJn] at h2
 rw[aJo] at h1
 have hU:Lib.Utf8Tabs 1 2 W:=utf8Tabs_of_readsT (ρ:=aJr) ⟨by kernel_rfl,by kernel_rfl,by kernel_rfl,by kernel_rfl⟩ ⟨by kernel_rfl,by kernel_rfl,by kernel_rfl,by kernel_rfl,by kernel_rfl,by kernel_rfl,by kernel_rfl⟩ h2 h1
 refine⟨?_,hU,⟨m,hm⟩,fun _ h=>by cases h⟩
 have b0:0<W.heap.size:=a4g hm
 have b1:1<W.heap.size:=a4g (hU.1 0 (by decide))
 have b2:2<W.heap.size:=a4g (hU.2 0 (by decide)).1
 show 3≤W.heap.size
 omega
end Go.Proofs.YtfchbnahjcdiiaaGreatDoor
namespace Go.Proofs.YtfchbnahjcdiiaaGreatDoor
open Vc
open Go.ChangeShapes Go.WideShapes Go.ChangeAt Go.RowKit
set_option maxRecDepth 100000
def kS (w:World):Gh:=⟨fun b _=>b<w.heap.size,fun _=>none,fun _ _=>none⟩
theorem aJu {W:World}(hT:Tabs W) (s:ByteArray):
  Calls Tryz.prog 8 #[.string s] W fun e W'=>e= .returned (.bool true)∧Below W.heap.size W W':=by
 have hC:a3t (ME s.data.toList) QP=some (J6 s.data.toList):=aGy _
 have ht:=aJj s.data.toList
 refine(aGA.1.2 (kS W) W (ME s.data.toList) [.string s] [] _ ⟨(fun i b h=>by cases h),(fun i j bi bj b o _ h=>by cases h),fun b o h=>h,hT,(fun i blk b o h=>by cases h)⟩ ⟨.string s,[],rfl,?_,rfl⟩ hC ?_).mono fun e W' ⟨v,g',he,r⟩=> ?_
 ·refine⟨?_,trivial⟩
  refine .inr ⟨rfl,?_⟩
  show [Value.string s]=[Value.string ⟨s.data.toList.toArray⟩]
  rw[Array.toArray_toList]
 ·intro p hp
  have:p=((GR s.data.toList).isSome=true):=by simpa[J6] using hp
  rw[this,ht];rfl
 ·have hv:v= .bool true:=by
   have h1:=r.ret
   unfold J6 at h1
   rw[ht] at h1
   exact uE h1.1
  subst hv
  exact⟨he,⟨r.fr.os,r.fr.tape,r.fr.output,r.fr.size,fun k hk=>r.fr.blk k hk (fun o ⟨i,blk,hi,_⟩=>by cases hi)⟩⟩
end Go.Proofs.YtfchbnahjcdiiaaGreatDoor
namespace Go.Proofs.YtfchbnahjcdiiaaGreatDoor
open Go.ChangeShapes Go.WideShapes Go.ChangeAt Go.RowKit Go.Lib
open Go.ChangeMaps (open_string shut_string)
set_option maxRecDepth 100000
namespace propsSplitLaw
theorem own:ownKnob Tryz.prog.godebug=none:=by kernel_rfl
theorem BY:laidOutB Tryz.prog=true:=by kernel_rfl
theorem aJv:Tryz.prog.readableRec 9=true:=by kernel_rfl
theorem nS:9<Tryz.prog.types.size:=of_decide_eq_true (by kernel_rfl)
noncomputable def RZ (os:Os):World:=
 let w0:=World.holding Tryz.prog os ⟨#[],#[],[]⟩
 let rH (h:Array Obj) (g:Nat) (cs:Array Value):Array Obj:=h.modify g fun
  | .cells _ t frozen=> .cells cs t frozen
  |o=>o
 let h1:=rH w0.heap 1 (Lib.firstTab.map fun z=>Value.int .u8 z).toArray
 let h2:=rH h1 2 ((List.range 16).flatMap fun i=>[Value.int .u8 (Lib.accLo i),Value.int .u8 (Lib.accHi i)]).toArray
 {w0 with heap:=h2}
theorem aJx (os:Os) (args:Array Value):laidMet Tryz.prog Rows.propsSplitRow.laid ((RZ os).forCall (fun _ _=>0) ⟨#[],args,[]⟩).memory:=
 (LaidIn.of_run [2,1] 8 (by kernel_rfl) (by kernel_rfl) (by kernel_rfl) (by kernel_rfl):LaidIn Tryz.prog _ Rows.propsSplitRow.laid _).met
theorem aJy (os:Os) {H:Type}(enc:TypeId×Value→H):
  (OpenSpec.ofChange Rows.propsSplitSpec).preRow enc Tryz.prog Tryz.f8 [] false Rows.propsSplitRow.laid ((RZ os).forCall (fun _ _=>0) ⟨#[],#[.string ⟨#[]⟩],[]⟩).memory #[.string ⟨#[]⟩]:=by
 have hw:(DataW.whole enc Tryz.prog ((RZ os).forCall (fun _ _=>0) ⟨#[],#[.string ⟨#[]⟩],[]⟩).memory Tryz.f8.params.toList (OpenSpec.ofChange Rows.propsSplitSpec).vars false #[Value.string ⟨#[]⟩].toList 8).map (fun x=>(x.1,x.2.1))=
   some ([.lit (.string [])],[]):=by kernel_rfl
 obtain⟨⟨x1,x2,x3⟩,hx,hx1⟩:=Option.map_eq_some_iff.1 hw
 simp only[Prod.mk.injEq] at hx1
 obtain⟨rfl,rfl⟩:=hx1
 exact OpenSpec.preRow_of_cond 8 hx (by kernel_rfl) (fun k hk=>by cases hk) (by kernel_rfl) (aJx os _)
theorem lifted (os:Os) (started:os.Started) (H:Type) (enc:TypeId×Value→H) (F:Stop.Interp):
  ReturnsInHanded {} Tryz.checked os 8 .any ((OpenSpec.ofChange Rows.propsSplitSpec).preRow enc Tryz.prog Tryz.f8 [] false Rows.propsSplitRow.laid) (Rows.propsSplitSpec.post enc Tryz.prog Tryz.f8 false true false false):=by
 refine aJm (C:=Tryz.checked) (tb:=4) own started F (by kernel_rfl) Tryz.func8 BY ?_ rfl rfl Tryz.underlying4 ?_
  (witness_row_atRef (enc:=enc) (C:=Tryz.checked) false (RZ os) #[.string ⟨#[]⟩] rfl (by kernel_rfl) (by kernel_rfl) (by kernel_rfl) (aJy os enc)) ?_
 ·intro t ht
  rw[Tryz.params8] at ht
  simp only[List.mem_cons,List.not_mem_nil,or_false] at ht
  rcases ht with rfl
  exact⟨aJv,nS⟩
 ·intro ds W args ps h
  have h':DataW.TrodAll enc Tryz.prog W 0 (fun _=>true) true Tryz.f8.params.toList args.toList ds ps:=h
  rw[Tryz.params8] at h'
  obtain⟨v0,d0,rfl,rfl,h0⟩:=trodAll_one h'
  rfl
 ·intro W base args ds ps hval0 hA0 hlt hL hsh
  have hval: ∀(j:Nat) t v,Tryz.f8.params[j]? =some t→args[j]? =some v→Value.okWide Tryz.prog W .any base t v:=hval0
  have hA:DataW.TrodAll enc Tryz.prog W 0 (fun _=>true) true Tryz.f8.params.toList args.toList ds ps:=hA0
  rw[Tryz.params8] at hA hval
  obtain⟨v0,d0,rfl,rfl,h0⟩:=trodAll_one hA
  obtain⟨s,rfl,rfl,rfl,ws⟩:=open_string Tryz.underlying9 (hval 0 9 v0 rfl rfl) h0
  exact aJu (aJs hL hsh) s
end propsSplitLaw
theorem aCr:Rows.PropsSplitSaid:=
 OpenClaim.holds_of_wide 8 Tryz.f8 rfl rfl rfl rfl rfl rfl rfl ⟨rfl,rfl,rfl,rfl,rfl⟩ rfl rfl rfl rfl rfl (by kernel_rfl) Tryz.func8 (by kernel_rfl)
  (of_decide_eq_true (by kernel_rfl)) (by unfold Func.isWrapper;first|(rw[if_pos (by decide+kernel)];kernel_rfl) |(rw[if_neg (by decide+kernel)];exact⟨rfl,rfl⟩))
  (fun os started H enc _=>by rw[OpenClaim.pre_eq_preRow];exact propsSplitLaw.lifted os started H enc (fun _ _ _=>0))
#print axioms aCr
end Go.Proofs.YtfchbnahjcdiiaaGreatDoor
namespace Go.Proofs.YtfchbnahjcdiiaaGreatDoor
open Go
set_option maxRecDepth 100000
theorem propsSplitCard_holds:Rows.PropsSplitCardSaid:=
 Claim7.holds_tied_plain_at .later [] [.data,.pinned] true (true, "146bb05169042bd84b58c90b8373b19d6ea2c804118574bd5c158f8fcdc71822") false
  aCr (fun _ h=>by cases h) (by kernel_rfl) (fun _ h=>by cases h) propsSplit_row_tie rfl ⟨rfl,rfl⟩ (by kernel_rfl) rfl
  (fun f fn hf hfn=>by
   obtain rfl:f=8:=Option.some.inj ((show Tryz.prog.funcNamed "calque/calquelaw38.PropsSplit" =some 8 by kernel_rfl).symm.trans hf) |>.symm
   obtain rfl:fn=Tryz.f8:=(Option.some.inj (Tryz.func8.symm.trans hfn)).symm
   exact⟨by kernel_rfl,fun j t ht=>by
    rw[Tryz.params8] at ht
    have hm:t∈[9]:=by simpa using Array.mem_of_getElem? ht
    have hall:([9].all fun u=> !Tryz.prog.wantsStandIn u)=true:=by kernel_rfl
    exact(show Tryz.prog.wantsStandIn t=false by simpa using List.all_eq_true.1 hall t hm)⟩)
  (by kernel_rfl)
#print axioms propsSplitCard_holds
end Go.Proofs.YtfchbnahjcdiiaaGreatDoor
