/- PropsParse returns true for every body (Split gives the pieces that the document gives): the tied card of the statement, over the row's statement. No condition. -/
/- Packed by a program of mine (wip/tools/pack.py): the same texts with short names and few blanks. -/
import Derived.Deep.CondSized
import Derived.Deep.DeepHandedRow
import Derived.Deep.DeepWitnessRowRef
import Derived.KernelRfl
import Derived.Lib.Index
import Derived.Lib.LaidIn
import Derived.Lib.LaidU8T
import Derived.OpenShut
import Derived.ProofKit
import Derived.SevenTiedAt
import Derived.SizedLaws
import Derived.Test.YtfchbnahjcdiiaaGreatDoorCards
import Derived.Test.YtfchbnahjcdiiaaGreatDoorRows
import Derived.Test.YtfchbnahjcdiiaaGreatDoorTie
import Derived.WalkKit
import Derived.Test.YtfchbnahjcdiiaaGreatDoorX03
set_option linter.unusedVariables false
set_option linter.unusedSimpArgs false
set_option linter.unusedSectionVars false
namespace Go.Proofs.YtfchbnahjcdiiaaGreatDoor
open Vc
set_option maxRecDepth 100000
def yC (n:Int) (b:UInt8):Bool:=decide (b=10)||((decide (n=2)||decide (n=3))&&decide (b=34))
def sJ (n:Int):List UInt8→List UInt8×Nat
 |[]=>([],0)
 |b::t=>if b=92 then BQ (b::t) else if yC n b=true then([b],0) else([b],1)
theorem aA9 {l:List UInt8}{k:Nat}{ok:Int→Bool}{f:Int→List UInt8}(hf: ∀n,(f n).length≤4):(BP l k ok f).1.length≤4∧((BP l k ok f).2=0∨(BP l k ok f).2=k):=by
 unfold BP
 cases vV 16 0 l with
 |none=>exact⟨by simp,.inl rfl⟩
 |some n=>
  dsimp only
  split
  ·exact⟨hf n,.inr rfl⟩
  ·exact⟨by simp,.inl rfl⟩
theorem aGE (l:List UInt8):(BQ l).1.length≤4∧(BQ l).2≤l.length:=by
 unfold BQ
 split
 ·rename_i a c t
  have h1:=aA9 (l:=t.take 2) (k:=4) (ok:=fun n=>decide (n≤127)) (f:=fun n=>qZ [n]) (fun n=>by simp [qZ])
  have h2:=aA9 (l:=t.take 4) (k:=6) (ok:=uJ) (f:=Lib.encodeRune) aAV
  repeat' split
  all_goals first
   |exact⟨by simp,by simp⟩
   |(rename_i h;exact⟨h1.1,by rcases h1.2 with e|e<;>rw[e]<;>simp<;>omega⟩)
   |(rename_i h;exact⟨h2.1,by rcases h2.2 with e|e<;>rw[e]<;>simp<;>omega⟩)
 ·exact⟨by simp,by simp⟩
theorem a3y {n:Int}{b:UInt8}{t:List UInt8}(h:b=92):sJ n (b::t)=BQ (b::t):=if_pos h
theorem QO {n:Int}{b:UInt8}{t:List UInt8}(h:b≠92) (hb:yC n b=true):sJ n (b::t)=([b],0):=(if_neg h).trans (if_pos hb)
theorem a3z {n:Int}{b:UInt8}{t:List UInt8}(h:b≠92) (hb: ¬yC n b=true):sJ n (b::t)=([b],1):=(if_neg h).trans (if_neg hb)
theorem M3 (n:Int) (l:List UInt8):(sJ n l).1.length≤4∧(sJ n l).2≤l.length:=by
 cases l with
 |nil=>exact⟨by simp [sJ],by simp [sJ]⟩
 |cons b t=>
  by_cases h:b=92
  ·rw[a3y h];exact aGE _
  ·by_cases hb:yC n b=true
   ·rw[QO h hb];exact⟨by simp,by simp⟩
   ·rw[a3z h hb];exact⟨by simp,by simp⟩
def vE (n:Int):Nat→List UInt8→List UInt8⊕Nat
 |0,_=> .inl []
 |_+1,[]=> .inl []
 |k+1,b::t=>if (sJ n (b::t)).2=0 then .inr 0 else match vE n k ((b::t).drop (sJ n (b::t)).2) with
  | .inl r=> .inl ((sJ n (b::t)).1++r)
  | .inr e=> .inr ((sJ n (b::t)).2+e)
def wG (n:Int) (s:List UInt8):List UInt8×Int×Int:=match vE n s.length s with
 | .inl r=>(r,0,0)
 | .inr e=>([],e,3)
theorem aBa (a b:List UInt8):sE (a++b)=sE a++sE b:=by simp [sE]
theorem aBb (a:List UInt8):qZ (sE a)=a:=by
 unfold qZ sE
 rw[List.map_map]
 conv=>rhs;rw[←List.map_id a]
 congr 1
 funext b
 simp
theorem aBc {s:List UInt8}{i:Nat}(h:i<s.length):p4 s (i:Int) ((i:Int)+1)=[s[i]]:=by
 unfold p4
 rw[Int.toNat_natCast,show ((i:Int)+1).toNat-i=1 by omega,List.drop_eq_getElem_cons h]
 rfl
theorem aGF {n:Int}(h1:1≤n) (h3:n≤3) {s:List UInt8}(hs:fit s) {x:List Int}{i:Nat}(hi:i<s.length) (hx:x.length≤10000000):
  IL n s (x,(i:Int))=if (sJ n (s.drop i)).2=0 then some (.inr (.inr ([],(i:Int),3))) else some (.inl (x++sE (sJ n (s.drop i)).1,((i+(sJ n (s.drop i)).2:Nat):Int))):=by
 have hs':=hs
 unfold fit at hs'
 have hn4:decide (n=4)=false:=by simp;omega
 have hp:=M3 n (s.drop i)
 rw[List.length_drop] at hp
 unfold IL
 dsimp only
 rw[if_pos (sI hi),if_pos (qD hi),if_pos (qV (by omega)),if_pos ⟨by omega,by omega,by omega⟩,uH hi,aBc hi,vN,sW (n:=92) 92 rfl,sW (n:=38) 38 rfl,sW (n:=10) 10 rfl,sW (n:=34) 34 rfl,hn4]
 have hb: ∀v:List UInt8×Nat,v.1.length≤4→v.2≤s.length-i→
   ((if decide ((v.2:Int)=0)=true then(some (.inr (.inr (([]:List UInt8),(i:Int),(3:Int)))):Option ((List Int×Int)⊕(List Int⊕(List UInt8×Int×Int)))) else if x.length+v.1.length≤140737488355328 then if i64 ((i:Int)+(v.2:Int)) then some (.inl ((x++sE v.1),((i:Int)+(v.2:Int)))) else none else none)=if v.2=0 then some (.inr (.inr ([],(i:Int),3))) else some (.inl (x++sE v.1,((i+v.2:Nat):Int)))):=fun v hv1 hv2=>by
  by_cases h0:v.2=0
  ·rw[if_pos (by simp [h0]),if_pos h0]
  ·rw[if_neg (by simpa using h0),if_neg h0,if_pos (by omega),if_pos (by unfold i64;omega)]
   rfl
 rw[List.drop_eq_getElem_cons hi] at hp⊢
 simp only[Bool.not_false,Bool.true_and,Bool.false_and,Bool.false_eq_true,if_false]
 by_cases c1:s[i]=92
 ·rw[a3y c1] at hp⊢
  rw[if_pos (by simpa using c1),if_pos ⟨by omega,by omega,Int.le_refl _⟩,aGC]
  unfold pW
  simp only[Option.bind_some]
  exact hb _ hp.1 hp.2
 ·rw[if_neg (by simpa using c1)]
  by_cases c2:s[i]=10
  ·rw[if_pos (by simpa using c2),if_pos (by simpa using c2),QO c1 (show yC n s[i]=true by simp [yC,c2])]
   unfold pW
   simp only[Option.bind_some]
   exact hb ([s[i]],0) (by simp) (by simp)
  ·rw[if_neg (by simpa using c2)]
   by_cases c3:((decide (n=2)||decide (n=3))&&decide (s[i]=34))=true
   ·rw[if_pos c3,if_pos c3,QO c1 (show yC n s[i]=true by unfold yC;rw[c3];simp)]
    unfold pW
    simp only[Option.bind_some]
    exact hb ([s[i]],0) (by simp) (by simp)
   ·have hbad:yC n s[i]=false:=by
     have c3':((decide (n=2)||decide (n=3))&&decide (s[i]=34))=false:=by simpa using c3
     unfold yC
     rw[c3'];simp [c2]
    have hbad': ¬yC n s[i]=true:=by simp [hbad]
    rw[a3z c1 hbad'] at hp⊢
    rw[if_neg c3,if_pos (fun h=>by simp at h)]
    unfold pW
    simp only[Option.bind_some]
    exact hb ([s[i]],1) (by simp) hp.2
theorem aGG {n:Int}(h1:1≤n) (h3:n≤3) (b:UInt8):G9 n (b.toNat:Int)=yC n b:=by
 unfold G9 yC q6
 rw[sW (n:=10) 10 rfl,sW (n:=34) 34 rfl]
 by_cases c1:n=1
 ·subst c1;simp
 ·have h23:n=2∨n=3:=by omega
  rcases h23 with rfl|rfl<;>simp
theorem aGH {x:List Int}{c:Int}(hx:x.length≤10000000):GA (x,()) c=some ():=by
 unfold GA
 exact if_pos (by simp only[List.length_singleton,Nat.mul_one];omega)
theorem aGI {x:List Int}{t:List UInt8}(hx:x.length≤10000000) (ht:t.length≤1000000):G3 (x,()) t=some ():=by
 unfold G3
 exact if_pos (by dsimp only;omega)
theorem aGJ {n:Int}(h1:1≤n) (h3:n≤3) {s:List UInt8}(hs:fit s) {x:List Int}{i:Nat}(hi:i<s.length) (hx:x.length≤10000000):
  IP n s ((i:Int),x)=if (sJ n (s.drop i)).2=0 then some (.inr (.inr ([],(i:Int),3))) else some (.inl (((i+(sJ n (s.drop i)).2:Nat):Int),x++sE (sJ n (s.drop i)).1)):=by
 have hs':=hs
 unfold fit at hs'
 have hp:=M3 n (s.drop i)
 rw[List.length_drop] at hp
 unfold IP
 dsimp only
 rw[if_pos (sI hi),if_pos (qD hi),uH hi,vN,sW (n:=92) 92 rfl,aGG h1 h3]
 rw[List.drop_eq_getElem_cons hi] at hp⊢
 by_cases c1:s[i]=92
 ·rw[a3y c1] at hp⊢
  rw[if_pos (by simpa using c1),if_pos ⟨by omega,by omega,Int.le_refl _⟩,aGD]
  simp only[Option.bind_some]
  by_cases h0:(BQ (s[i]::s.drop (i+1))).2=0
  ·rw[if_pos (by rw[h0];rfl),if_pos h0]
  ·rw[if_neg (by rw[decide_eq_true_eq];omega),if_neg h0,aGI hx (by omega)]
   simp only[Option.bind_some]
   rw[if_pos (by unfold i64;omega)]
   rfl
 ·rw[if_neg (by simpa using c1),if_pos (qD hi)]
  by_cases hb:yC n s[i]=true
  ·rw[if_pos hb,QO c1 hb];rfl
  ·rw[if_neg hb,a3z c1 hb,if_pos (qD hi),aGH hx,Option.bind_some]
   rw[if_pos (qV (by omega))]
   rfl
theorem aBd {n:Int}(h1:1≤n) (h3:n≤3) {s:List UInt8}(hs:fit s): ∀(k i:Nat) (x:List Int),i≤s.length→s.length-i≤k→x.length+4*(s.length-i)≤5000000→
  pF (IL n s) (x,(i:Int))=some (match vE n k (s.drop i) with| .inl r=> .inl (x++sE r) | .inr e=> .inr ([],((i+e:Nat):Int),3))
 |k,i,x,hi,hk,hx=>by
  by_cases hlt:i<s.length
  ·cases k with
   |zero=>omega
   |succ k=>
    have hp:=M3 n (s.drop i)
    rw[vM,aGF h1 h3 hs hlt (by omega)]
    rw[List.length_drop] at hp
    have hu:vE n (k+1) (s.drop i)=if (sJ n (s.drop i)).2=0 then .inr 0 else match vE n k ((s.drop i).drop (sJ n (s.drop i)).2) with
      | .inl r=> .inl ((sJ n (s.drop i)).1++r)
      | .inr e=> .inr ((sJ n (s.drop i)).2+e):=by
     rw[List.drop_eq_getElem_cons hlt,vE]
    rw[hu]
    by_cases h0:(sJ n (s.drop i)).2=0
    ·rw[if_pos h0,if_pos h0];rfl
    ·rw[if_neg h0,if_neg h0]
     show pF _ (_,((i+(sJ n (s.drop i)).2:Nat):Int))=_
     rw[aBd h1 h3 hs k _ _ (by omega) (by omega) (by rw[List.length_append];simp only[sE,List.length_map];omega),List.drop_drop]
     cases vE n k (s.drop (i+(sJ n (s.drop i)).2)) with
     |inl r=>dsimp only;rw[aBa,List.append_assoc]
     |inr e=>dsimp only;rw[Nat.add_assoc]
  ·have:i=s.length:=by omega
   subst this
   rw[tN (r:= .inl x) (by unfold IL;simp),List.drop_length]
   cases k<;>simp [vE,sE]
theorem aBe {n:Int}(h1:1≤n) (h3:n≤3) {s:List UInt8}(hs:fit s): ∀(k i:Nat) (x:List Int),i≤s.length→s.length-i≤k→x.length+4*(s.length-i)≤5000000→
  pF (IP n s) ((i:Int),x)=some (match vE n k (s.drop i) with| .inl r=> .inl (x++sE r) | .inr e=> .inr ([],((i+e:Nat):Int),3))
 |k,i,x,hi,hk,hx=>by
  by_cases hlt:i<s.length
  ·cases k with
   |zero=>omega
   |succ k=>
    have hp:=M3 n (s.drop i)
    rw[vM,aGJ h1 h3 hs hlt (by omega)]
    rw[List.length_drop] at hp
    have hu:vE n (k+1) (s.drop i)=if (sJ n (s.drop i)).2=0 then .inr 0 else match vE n k ((s.drop i).drop (sJ n (s.drop i)).2) with
      | .inl r=> .inl ((sJ n (s.drop i)).1++r)
      | .inr e=> .inr ((sJ n (s.drop i)).2+e):=by
     rw[List.drop_eq_getElem_cons hlt,vE]
    rw[hu]
    by_cases h0:(sJ n (s.drop i)).2=0
    ·rw[if_pos h0,if_pos h0];rfl
    ·rw[if_neg h0,if_neg h0]
     show pF _ (((i+(sJ n (s.drop i)).2:Nat):Int),_)=_
     rw[aBe h1 h3 hs k _ _ (by omega) (by omega) (by rw[List.length_append];simp only[sE,List.length_map];omega),List.drop_drop]
     cases vE n k (s.drop (i+(sJ n (s.drop i)).2)) with
     |inl r=>dsimp only;rw[aBa,List.append_assoc]
     |inr e=>dsimp only;rw[Nat.add_assoc]
  ·have:i=s.length:=by omega
   subst this
   rw[tN (r:= .inl x) (by unfold IP;simp),List.drop_length]
   cases k<;>simp [vE,sE]
theorem aBf {n:Int}(h1:1≤n) (h3:n≤3) {s:List UInt8}(hs:fit s):AM n s=some (wG n s):=by
 unfold AM
 have hs':=hs
 unfold fit at hs'
 rw[if_neg (by simp;omega),show (([]:List Int),(0:Int))=(([]:List Int),((0:Nat):Int)) from rfl,aBd h1 h3 hs s.length 0 [] (by omega) (by omega) (by simp;omega),List.drop_zero]
 unfold wG
 cases vE n s.length s with
 |inl r=>
  show some (qZ ([]++sE r),(0:Int),(0:Int))=_
  rw[List.nil_append,aBb]
 |inr e=>
  show some (([]:List UInt8),((0+e:Nat):Int),(3:Int))=_
  rw[Nat.zero_add]
theorem aBg {n:Int}(h1:1≤n) (h3:n≤3) {s:List UInt8}(hs:fit s):AP n s=some (wG n s):=by
 unfold AP
 have hs':=hs
 unfold fit at hs'
 rw[if_neg (by simp;omega),if_neg (by simp;omega),show ((0:Int),([]:List Int))=(((0:Nat):Int),([]:List Int)) from rfl,aBe h1 h3 hs s.length 0 [] (by omega) (by omega) (by simp;omega),List.drop_zero]
 unfold wG
 cases vE n s.length s with
 |inl r=>
  show some (qZ ([]++sE r),(0:Int),(0:Int))=_
  rw[List.nil_append,aBb]
 |inr e=>
  show some (([]:List UInt8),((0+e:Nat):Int),(3:Int))=_
  rw[Nat.zero_add]
theorem aBh (n:Int): ∀(k:Nat) (l r:List UInt8),vE n k l= .inl r→r.length≤4*k
 |0,_,_,h=>by cases h;simp
 |_+1,[],_,h=>by cases h;simp
 |k+1,b::t,r,h=>by
  rw[vE] at h
  split at h
  ·cases h
  ·have hp:=(M3 n (b::t)).1
   cases hu:vE n k ((b::t).drop (sJ n (b::t)).2) with
   |inl r'=>
    rw[hu] at h
    cases h
    have:=aBh n k _ r' hu
    rw[List.length_append];omega
   |inr e=>rw[hu] at h;cases h
theorem J5 (n:Int) (s:List UInt8):(wG n s).1.length≤4*s.length:=by
 unfold wG
 cases h:vE n s.length s with
 |inl r=>exact aBh n _ _ _ h
 |inr e=>simp
end Go.Proofs.YtfchbnahjcdiiaaGreatDoor
namespace Go.Proofs.YtfchbnahjcdiiaaGreatDoor
open Vc
set_option maxRecDepth 100000
def qR (x y:UInt8):List UInt8→Bool
 |b::c::_=>decide (b=x)&&decide (c=y)
 |_=>false
theorem QV {s:List UInt8}{i:Nat}(hi:i≤s.length) (x y:UInt8):((decide ((List.length ([x,y]:List UInt8):Int)≤((List.length s:Int)- (i:Int))))&&(decide ((p4 s (i:Int) ((i:Int)+(List.length ([x,y]:List UInt8):Int)))=([x,y]:List UInt8))))=qR x y (s.drop i):=by
 have hc:p4 s (i:Int) ((i:Int)+(List.length ([x,y]:List UInt8):Int))=(s.drop i).take 2:=by
  unfold p4
  rw[Int.toNat_natCast]
  congr 1
  show ((i:Int)+2).toNat-i=2
  omega
 have hl:(s.drop i).length=s.length-i:=List.length_drop
 rw[hc]
 generalize s.drop i=r at hl
 match r,hl with
 |[],hl=>simp only[List.length_nil] at hl;rw[show decide ((List.length ([x,y]:List UInt8):Int)≤((List.length s:Int)- (i:Int)))=false by simp only[List.length_cons,List.length_nil,decide_eq_false_iff_not];omega];rfl
 |[b],hl=>simp only[List.length_cons,List.length_nil] at hl;rw[show decide ((List.length ([x,y]:List UInt8):Int)≤((List.length s:Int)- (i:Int)))=false by simp only[List.length_cons,List.length_nil,decide_eq_false_iff_not];omega];rfl
 |b::c::t,hl=>
  simp only[List.length_cons] at hl
  rw[show decide ((List.length ([x,y]:List UInt8):Int)≤((List.length s:Int)- (i:Int)))=true by simp;omega,Bool.true_and]
  show decide ([b,c]=[x,y])=_
  unfold qR
  rw[Bool.eq_iff_iff]
  simp
theorem J7 (r:List UInt8) (x y:UInt8):((decide ((List.length ([x,y]:List UInt8):Int)≤(List.length r:Int)))&&(decide ((p4 r (0:Int) (List.length ([x,y]:List UInt8):Int))=([x,y]:List UInt8))))=qR x y r:=by
 have:=QV (s:=r) (i:=0) (Nat.zero_le _) x y
 rw[List.drop_zero,show ((0:Nat):Int)=0 from rfl,Int.sub_zero,Int.zero_add] at this
 exact this
theorem M6 (r:List UInt8) (x y:UInt8):CZ r [x,y]=some ():=by
 have h2:((List.length ([x,y]:List UInt8):Nat):Int)=2:=rfl
 unfold CZ CR
 rw[h2,if_pos]
 ·rfl
 ·intro h
  simp only[beq_iff_eq,decide_eq_true_eq] at h
  exact⟨Int.le_refl _,by decide,h⟩
theorem aBj (x y:UInt8):(x==y)=decide (y=x):=by
 by_cases h:y=x
 ·subst h;rw[beq_self_eq_true,decide_eq_true rfl]
 ·rw[decide_eq_false h,beq_eq_false_iff_ne];exact fun e=>h e.symm
theorem aBk {o:Option Nat}:(if (vD o== -1)=true then(-1:Int) else vD o+1)=vD (o.map (· +1)):=by
 cases o with
 |none=>rfl
 |some k=>
  show (if ((k:Int)== -1)=true then(-1:Int) else(k:Int)+1)=((k+1:Nat):Int)
  rw[if_neg (by rw[beq_iff_eq];omega)]
  rfl
theorem QW: ∀(l:List UInt8),Lib.indexByte l 10=vD (l.findIdx? fun b=>decide (b=10))
 |[]=>rfl
 |b::t=>by
  rw[Lib.indexByte,List.findIdx?_cons,QW t,aBj,aBk]
  by_cases h:b=10
  ·subst h;rfl
  ·rw[if_neg (by simpa using fun e=>h (Eq.symm e)),if_neg (by simpa using h)]
end Go.Proofs.YtfchbnahjcdiiaaGreatDoor
namespace Go.Proofs.YtfchbnahjcdiiaaGreatDoor
open Vc
set_option maxRecDepth 100000
end Go.Proofs.YtfchbnahjcdiiaaGreatDoor
namespace Go.Proofs.YtfchbnahjcdiiaaGreatDoor
open Vc
set_option maxRecDepth 100000
end Go.Proofs.YtfchbnahjcdiiaaGreatDoor
namespace Go.Proofs.YtfchbnahjcdiiaaGreatDoor
open Vc
set_option maxRecDepth 100000
end Go.Proofs.YtfchbnahjcdiiaaGreatDoor
namespace Go.Proofs.YtfchbnahjcdiiaaGreatDoor
open Vc
set_option maxRecDepth 100000
theorem sX {p:Prop}{α:Type}{v:α}:p→(some v).isSome=true:=fun _=>rfl
abbrev C4:=List UInt8×(List (List UInt8)×(List Fld×(List dT1×Unit)))
abbrev R8:=Int×Int×List UInt8×Int×Int×Int×Int×Int
end Go.Proofs.YtfchbnahjcdiiaaGreatDoor
namespace Go.Proofs.YtfchbnahjcdiiaaGreatDoor
open Vc
set_option maxRecDepth 100000
end Go.Proofs.YtfchbnahjcdiiaaGreatDoor
namespace Go.Proofs.YtfchbnahjcdiiaaGreatDoor
open Vc
set_option maxRecDepth 100000
end Go.Proofs.YtfchbnahjcdiiaaGreatDoor
namespace Go.Proofs.YtfchbnahjcdiiaaGreatDoor
open Vc
set_option maxRecDepth 100000
section
variable {s:List UInt8}(hsm:s.length≤5000) {P:Nat}(hP:P≤s.length) {c:C4}{bad e:Int}{ends:List Int}{kind:Int}{text:List UInt8}
include hsm hP
def uK (l:List (List UInt8)) (x:List UInt8):Nat:=(l.findIdx? fun y=> !Op.bytesLess y x).getD l.length
def F1 (l:List (List UInt8)) (x:List UInt8):List (List UInt8):=l.take (uK l x)++[x]++l.drop (uK l x)
omit hsm hP in
theorem aBs (l:List (List UInt8)) (x:List UInt8):uK l x≤l.length:=by
 unfold uK
 cases h:l.findIdx? fun y=> !Op.bytesLess y x with
 |none=>exact Nat.le_refl _
 |some k=>exact Nat.le_of_lt (List.findIdx?_eq_some_iff_getElem.1 h).1
end
end Go.Proofs.YtfchbnahjcdiiaaGreatDoor
namespace Go.Proofs.YtfchbnahjcdiiaaGreatDoor
open Vc
set_option maxRecDepth 100000
end Go.Proofs.YtfchbnahjcdiiaaGreatDoor
namespace Go.Proofs.YtfchbnahjcdiiaaGreatDoor
open Vc
set_option maxRecDepth 100000
end Go.Proofs.YtfchbnahjcdiiaaGreatDoor
namespace Go.Proofs.YtfchbnahjcdiiaaGreatDoor
open Vc
set_option maxRecDepth 100000
theorem z8 {v:Ty}(a b:List UInt8) (y:v.den): ∀l:List (List UInt8×v.den),mget .str v (qK .str v a y l) b=if b=a then y else mget .str v l b
 |[]=>by
  show (if decide (b=a)=true then y else v.zero)=if b=a then y else v.zero
  by_cases h:b=a<;>simp [h]
 |(x,z)::r=>by
  have ih:=z8 a b y r
  show mget .str v (if decide (a=x)=true then(a,y)::r else(x,z)::qK .str v a y r) b=if b=a then y else(if decide (b=x)=true then z else mget .str v r b)
  by_cases h:a=x
  ·rw[if_pos (decide_eq_true h)]
   show (if decide (b=a)=true then y else mget .str v r b)=_
   by_cases hb:b=a
   ·rw[if_pos (decide_eq_true hb),if_pos hb]
   ·rw[if_neg (by simpa using hb),if_neg hb,if_neg (by rw[←h];simpa using hb)]
  ·rw[if_neg (by simpa using h)]
   show (if decide (b=x)=true then z else mget .str v (qK .str v a y r) b)=_
   rw[ih]
   by_cases hb:b=a
   ·rw[if_pos hb,if_pos hb,if_neg (by rw[hb];simpa using h)]
   ·rw[if_neg hb,if_neg hb]
abbrev F2:=Int×Int×List UInt8×Int×Int×Int×Int×Int×List UInt8×List UInt8×List (List UInt8)×Int×List Fld×List (List UInt8)×List (List UInt8×Bool)
def qJ (r:R8) (sr tg:List UInt8) (cm:List (List UInt8)) (st:Int) (fd:List Fld) (l:List (List UInt8)) (m:List (List UInt8×Bool)):F2:=
 (r.1,r.2.1,r.2.2.1,r.2.2.2.1,r.2.2.2.2.1,r.2.2.2.2.2.1,r.2.2.2.2.2.2.1,r.2.2.2.2.2.2.2,sr,tg,cm,st,fd,l,m)
end Go.Proofs.YtfchbnahjcdiiaaGreatDoor
namespace Go.Proofs.YtfchbnahjcdiiaaGreatDoor
open Vc
set_option maxRecDepth 100000
theorem a3J: ∀(x y:List UInt8),Op.bytesLess x y=decide (x<y)
 |[],[]=>by simp [Op.bytesLess]
 |_::_,[]=>by simp [Op.bytesLess]
 |[],_::_=>by simp [Op.bytesLess]
 |a::x,b::y=>by
  rw[Op.bytesLess,a3J x y]
  simp only[List.cons_lt_cons_iff]
  by_cases h1:a<b<;>by_cases h2:a=b<;>by_cases h3:x<y<;>simp [h1,h2,h3]
theorem aBz (l:List (List UInt8)):(qH l).Pairwise (·≤·):=by
 have:=List.pairwise_mergeSort (le:=fun x y:List UInt8=>decide (x≤y)) (fun a b c h1 h2=>decide_eq_true (List.le_trans (of_decide_eq_true h1) (of_decide_eq_true h2))) (fun a b=>by simpa using List.le_total a b) l
 exact this.imp (fun h=>of_decide_eq_true h)
theorem R9 (l:List (List UInt8)):(qH l).Perm l:=List.mergeSort_perm l _
theorem DC (l:List (List UInt8)):(qH l).length=l.length:=(R9 l).length_eq
theorem aBA (l:List (List UInt8)) (p:List UInt8→Bool):(qH l).any p=l.any p:=(R9 l).any_eq
theorem aHB (l:List (List UInt8)) (x:List UInt8):(F1 l x).Perm (l++[x]):=by
 unfold F1
 have h:(l.take (uK l x)++l.drop (uK l x))=l:=List.take_append_drop _ _
 have h2:(l.take (uK l x)++[x]++l.drop (uK l x)).Perm (l.take (uK l x)++(l.drop (uK l x)++[x])):=by
  rw[List.append_assoc]
  exact List.Perm.append_left _ List.perm_append_comm
 have h3:l.take (uK l x)++(l.drop (uK l x)++[x])=l++[x]:=by rw[←List.append_assoc,h]
 rw[h3] at h2
 exact h2
theorem aHC {l:List (List UInt8)}(x:List UInt8) (h:l.Pairwise (·≤·)):(F1 l x).Pairwise (·≤·):=by
 have ht: ∀y∈l.take (uK l x),y≤x:=by
  intro y hy
  obtain⟨j,hj,rfl⟩:=List.mem_iff_getElem.1 hy
  rw[List.length_take] at hj
  rw[List.getElem_take]
  have:Op.bytesLess l[j] x=true:=by
   have hk:uK l x=(l.findIdx? fun y=> !Op.bytesLess y x).getD l.length:=rfl
   cases hf:l.findIdx? fun y=> !Op.bytesLess y x with
   |none=>
    have:=List.findIdx?_eq_none_iff.1 hf l[j] (List.getElem_mem _)
    simpa using this
   |some n=>
    rw[hf] at hk
    have:=(List.findIdx?_eq_some_iff_getElem.1 hf).2.2 j (by rw[hk] at hj;simp only[Option.getD_some] at hj;omega)
    simpa using this
  rw[a3J] at this
  exact List.le_of_lt (of_decide_eq_true this)
 have hd: ∀y∈l.drop (uK l x),x≤y:=by
  intro y hy
  have hk:uK l x=(l.findIdx? fun y=> !Op.bytesLess y x).getD l.length:=rfl
  cases hf:l.findIdx? fun y=> !Op.bytesLess y x with
  |none=>
   rw[hf] at hk
   rw[hk] at hy
   simp at hy
  |some n=>
   rw[hf] at hk
   obtain⟨hn,h1,h2⟩:=List.findIdx?_eq_some_iff_getElem.1 hf
   have hx:x≤l[n]:=by
    rw[a3J] at h1
    simp only[Bool.not_eq_true',decide_eq_false_iff_not] at h1
    exact List.not_lt.1 h1
   rw[hk] at hy
   simp only[Option.getD_some] at hy
   rw[List.drop_eq_getElem_cons hn] at hy
   rcases List.mem_cons.1 hy with rfl|hy
   ·exact hx
   ·have hp:(l.drop n).Pairwise (·≤·):=h.sublist (List.drop_sublist _ _)
    rw[List.drop_eq_getElem_cons hn] at hp
    exact List.le_trans hx ((List.pairwise_cons.1 hp).1 y hy)
 unfold F1
 rw[List.append_assoc]
 refine List.pairwise_append.2 ⟨h.sublist (List.take_sublist _ _),List.pairwise_append.2 ⟨List.pairwise_singleton _ _,h.sublist (List.drop_sublist _ _),?_⟩,?_⟩
 ·intro a ha b hb
  rw[List.mem_singleton.1 ha];exact hd b hb
 ·intro a ha b hb
  have hax:=ht a ha
  rcases List.mem_append.1 hb with hb|hb
  ·rw[List.mem_singleton.1 hb];exact hax
  ·exact List.le_trans hax (hd b hb)
theorem aBB (l:List (List UInt8)) (x:List UInt8):F1 (qH l) x=qH (l++[x]):=
 List.Perm.eq_of_pairwise (fun _ _ _ _ h1 h2=>List.le_antisymm h1 h2) (aHC x (aBz l)) (aBz _)
  ((aHB _ _).trans (((R9 l).append_right _).trans (R9 _).symm))
end Go.Proofs.YtfchbnahjcdiiaaGreatDoor
namespace Go.Proofs.YtfchbnahjcdiiaaGreatDoor
open Vc
set_option maxRecDepth 100000
end Go.Proofs.YtfchbnahjcdiiaaGreatDoor
namespace Go.Proofs.YtfchbnahjcdiiaaGreatDoor
open Vc
set_option maxRecDepth 100000
end Go.Proofs.YtfchbnahjcdiiaaGreatDoor
namespace Go.Proofs.YtfchbnahjcdiiaaGreatDoor
open Vc
set_option maxRecDepth 100000
end Go.Proofs.YtfchbnahjcdiiaaGreatDoor
namespace Go.Proofs.YtfchbnahjcdiiaaGreatDoor
open Vc
set_option maxRecDepth 100000
abbrev EntFit (y:dT1):Prop:=fit y.2.2.2.1∧fit y.2.2.2.2.1∧fit y.2.2.2.2.2.2.1
end Go.Proofs.YtfchbnahjcdiiaaGreatDoor
namespace Go.Proofs.YtfchbnahjcdiiaaGreatDoor
open Vc
set_option maxRecDepth 100000
def a3M (es:List dT1) (x:List UInt8):Int×Bool:=sQ (fun k=>((k:Int),true)) ((0:Int),false) (es.findIdx? fun y=>decide (y.1=x))
theorem aBG (es:List dT1) (x:List UInt8):(a3M es x).2=es.any fun y=>decide (y.1=x):=by
 rw[←QG]
 unfold a3M
 cases es.findIdx? fun y=>decide (y.1=x)<;>rfl
theorem aBH (c:C4) (x:List UInt8) (hl:c.2.2.2.1.length≤5000):CO c x=some (a3M c.2.2.2.1 x):=by
 have h:=zL (f:=L4 c x) (l:=c.2.2.2.1) (fun y=>decide (y.1=x)) (fun k=>((k:Int),true)) (fun i h=>by
  unfold L4
  rw[if_pos (sI h),if_pos (qD h),wD (t:=sC) h,if_pos (qV (by omega))]) (by
  unfold L4
  rw[if_neg (wF _)])
 unfold CO
 rw[h,BN]
 rfl
def IdsOk (ids:List (List UInt8×Bool)) (es:List dT1):Prop:= ∀x,mget .str .bool ids x=es.any fun y=>decide (y.1=x)
theorem aBI {ids:List (List UInt8×Bool)}{es:List dT1}(h:IdsOk ids es) (e:dT1) (x:List UInt8) (he:e.1=x):IdsOk (qK .str .bool x true ids) (es++[e]):=by
 intro y
 rw[z8,List.any_append,←h y]
 by_cases hy:y=x
 ·rw[if_pos hy];simp [he,hy]
 ·rw[if_neg hy]
  have:decide (e.1=y)=false:=by rw[he];simpa using fun hh=>hy hh.symm
  simp [this]
end Go.Proofs.YtfchbnahjcdiiaaGreatDoor
namespace Go.Proofs.YtfchbnahjcdiiaaGreatDoor
open Vc
set_option maxRecDepth 100000
end Go.Proofs.YtfchbnahjcdiiaaGreatDoor
namespace Go.Proofs.YtfchbnahjcdiiaaGreatDoor
open Vc
set_option maxRecDepth 100000
theorem AW {α:Type}:fit ([]:List α):=by unfold fit;exact Nat.zero_le _
def F5 (P:Nat) (ends:List Int):Prop:= ∃l:List Nat,ends=l.map (fun n:Nat=>(n:Int))∧l≠[]∧l.Pairwise (·≤·)∧∀x∈l,x≤P
theorem aH2 {P P':Nat}{ends:List Int}(h:F5 P ends) (hP:P≤P'):F5 P' (ends++[(P':Int)]):=by
 obtain⟨l,rfl,h1,h2,h3⟩:=h
 refine⟨l++[P'],by rw[List.map_append];rfl,List.append_ne_nil_of_right_ne_nil _ (List.cons_ne_nil _ _),?_,fun x hx=> ?_⟩
 ·rw[List.pairwise_append]
  exact⟨h2,List.pairwise_singleton _ _,fun x hx y hy=>by rw[List.mem_singleton.1 hy];exact Nat.le_trans (h3 x hx) hP⟩
 ·rcases List.mem_append.1 hx with hx|hx
  ·exact Nat.le_trans (h3 x hx) hP
  ·rw[List.mem_singleton.1 hx];exact Nat.le_refl _
theorem aH3 (P:Nat):F5 P [(P:Int)]:=⟨[P],rfl,List.cons_ne_nil _ _,List.pairwise_singleton _ _,fun x hx=>by rw[List.mem_singleton.1 hx];exact Nat.le_refl _⟩
theorem a3N {P P':Nat}{ends:List Int}(h:F5 P ends) (hP:P≤P'):F5 P' ends:=by
 obtain⟨l,h0,h1,h2,h3⟩:=h
 exact⟨l,h0,h1,h2,fun x hx=>Nat.le_trans (h3 x hx) hP⟩
end Go.Proofs.YtfchbnahjcdiiaaGreatDoor
namespace Go.Proofs.YtfchbnahjcdiiaaGreatDoor
open Vc
set_option maxRecDepth 100000
theorem a3O {α:Type}{f:Int→Option (Int⊕(Unit⊕Bool))}(l:List α) (hf: ∀(i:Nat) (h:i<l.length),f i=some (.inl (i+1))) (he:f l.length=some (.inr (.inl ()))):
  pF f 0=some (.inl ()):=by
 have h:=zL (f:=f) (l:=l) (fun _=>false) (fun _=>false) (fun i h=>by rw[if_neg Bool.false_ne_true];exact hf i h) he
 rw[h]
 have:l.findIdx? (fun _=>false)=none:=List.findIdx?_eq_none_iff.2 (fun _ _=>rfl)
 rw[this]
 rfl
theorem JD (l:List (List UInt8)) (hl:fit l):uV l l=some true:=by
 unfold fit at hl
 unfold uV
 rw[if_neg (by simp),a3O l (fun i h=>by
  unfold P9
  rw[if_pos (sI h),if_pos (qD h),if_pos (qD h),if_neg (by simp),if_pos (qV (by omega))]) (by
  unfold P9
  rw[if_neg (wF _)])]
 rfl
theorem RB (l:List Fld) (hl:fit l):y3 l l=some true:=by
 unfold fit at hl
 unfold y3
 rw[if_neg (by simp),a3O l (fun i h=>by
  unfold PA
  rw[if_pos (sI h),if_pos (qD h),if_pos (qD h),if_neg (by simp),if_pos (qV (by omega))]) (by
  unfold PA
  rw[if_neg (wF _)])]
 rfl
theorem aH4 (y:dT1) (h:EntFit y):I3 y y=some ():=by
 unfold I3
 rw[JD _ h.1,JD _ h.2.1,RB _ h.2.2,if_pos sX,if_pos sX,if_pos sX]
theorem aBK (l:List dT1) (hl:fit l) (h: ∀y∈l,EntFit y):CY l l=some true:=by
 unfold fit at hl
 unfold CY
 rw[if_neg (by simp),a3O l (fun i hi=>by
  have hy:=h l[i] (List.getElem_mem hi)
  unfold PO
  rw[if_pos (sI hi),if_pos (qD hi),if_pos (qD hi),wD (t:=sC) hi]
  rw[aH4 _ hy,Option.bind_some,JD _ hy.1,JD _ hy.2.1,RB _ hy.2.2,if_neg (by simp [val]),if_pos (qV (by omega))]) (by
  unfold PO
  rw[if_neg (wF _)])]
 rfl
end Go.Proofs.YtfchbnahjcdiiaaGreatDoor
namespace Go.Proofs.YtfchbnahjcdiiaaGreatDoor
open Vc
set_option maxRecDepth 100000
def tK (x:UInt8) (s:List UInt8):List UInt8:=if s.getLast? =some x then s.dropLast else s
def zA (x:UInt8) (s:List UInt8):List UInt8:=if s.head? =some x then s.drop 1 else s
theorem a3P (x:UInt8) (s:List UInt8):(tK x s).length≤s.length:=by
 unfold tK
 split
 ·rw[List.length_dropLast];omega
 ·exact Nat.le_refl _
theorem aH5 (x:UInt8) (s:List UInt8):(zA x s).length≤s.length:=by
 unfold zA
 split
 ·rw[List.length_drop];omega
 ·exact Nat.le_refl _
theorem MG (s:List UInt8) (x:UInt8):((decide ((List.length ([x]:List UInt8):Int)≤(List.length s:Int)))&&(decide ((p4 s (0:Int) (List.length ([x]:List UInt8):Int))=([x]:List UInt8))))=decide (s.head? =some x):=by
 cases s with
 |nil=>simp
 |cons b t=>
  rw[show p4 (b::t) (0:Int) (List.length ([x]:List UInt8):Int)=[b] from rfl]
  rw[show decide ((List.length ([x]:List UInt8):Int)≤(List.length (b::t):Int))=true by simp<;>omega,Bool.true_and]
  simp
theorem aH6 (s:List UInt8) (x:UInt8):((decide ((List.length ([x]:List UInt8):Int)≤(List.length s:Int)))&&(decide ((p4 s ((List.length s:Int)- (List.length ([x]:List UInt8):Int)) (List.length s:Int))=([x]:List UInt8))))=decide (s.getLast? =some x):=by
 rcases List.eq_nil_or_concat s with rfl|⟨t,b,rfl⟩
 ·simp
 ·rw[List.concat_eq_append]
  have hl:(t++[b]).length=t.length+1:=by simp
  have hc:p4 (t++[b]) (((t++[b]).length:Int)- (List.length ([x]:List UInt8):Int)) ((t++[b]).length:Int)=[b]:=by
   unfold p4
   rw[hl,show (((t.length+1:Nat):Int)- (List.length ([x]:List UInt8):Int)).toNat=t.length by simp,show ((t.length+1:Nat):Int).toNat-t.length=1 by omega,List.drop_left]
   rfl
  rw[hc,show decide ((List.length ([x]:List UInt8):Int)≤((t++[b]).length:Int))=true by simp<;>omega,Bool.true_and]
  simp
theorem aBL (s:List UInt8) (x:UInt8) (n:Int) (hn:(x.toNat:Int)=n):((decide ((0:Int)<(List.length s:Int)))&&(decide ((p9 s ((List.length s:Int)- (1:Int)))=n)))=decide (s.getLast? =some x):=by
 subst hn
 rcases List.eq_nil_or_concat s with rfl|⟨t,b,rfl⟩
 ·simp
 ·rw[List.concat_eq_append]
  have hl:(t++[b]).length=t.length+1:=by simp
  have hb:p9 (t++[b]) (((t++[b]).length:Int)-1)=(b.toNat:Int):=by
   rw[hl,show ((t.length+1:Nat):Int)-1=(t.length:Int) by omega,uH (by omega)]
   simp
  rw[hb,show decide ((0:Int)<((t++[b]).length:Int))=true by simp<;>omega,Bool.true_and]
  rw[Bool.eq_iff_iff,decide_eq_true_eq,decide_eq_true_eq,AT]
  simp
theorem a3Q {s:List UInt8}{x:UInt8}(h:s.getLast? =some x):1≤s.length:=by
 cases s with
 |nil=>simp at h
 |cons b t=>simp
theorem a3R {s:List UInt8}{x:UInt8}(h:s.head? =some x):1≤s.length:=by
 cases s with
 |nil=>simp at h
 |cons b t=>simp
theorem a3S {s:List UInt8}(h:1≤s.length):p4 s 0 ((s.length:Int)-1)=s.dropLast:=by
 rw[show ((s.length:Int)-1)=((s.length-1:Nat):Int) by omega,EX,List.dropLast_eq_take]
theorem a3T {s:List UInt8}(hs:fit s) (x:UInt8):zS s [x]=some (tK x s):=by
 unfold fit at hs
 have h1:((List.length ([x]:List UInt8):Nat):Int)=1:=rfl
 unfold zS ID LB
 rw[aH6,h1,if_pos (fun _=>by unfold i64;omega),if_pos (fun hh=>by simp only[beq_iff_eq,decide_eq_true_eq] at hh;omega),Option.bind_some]
 unfold tK
 by_cases h:s.getLast? =some x
 ·have:=a3Q h
  rw[if_pos (by simpa using h),if_pos h,if_pos (by unfold i64;omega),if_pos (by omega),a3S this]
  rfl
 ·rw[if_neg (by simpa using h),if_neg h]
  rfl
theorem aBM (s:List UInt8) (x:UInt8):CR s [x]=some ():=by
 have h1:((List.length ([x]:List UInt8):Nat):Int)=1:=rfl
 unfold CR
 rw[h1,if_pos (fun hh=>by simp only[beq_iff_eq,decide_eq_true_eq] at hh;omega)]
theorem a3U {s:List UInt8}:p4 s 1 (s.length:Int)=s.drop 1:=vN (k:=1)
theorem aH7 (s:List UInt8) (x:UInt8):GF s [x]=some (zA x s):=by
 have h1:((List.length ([x]:List UInt8):Nat):Int)=1:=rfl
 unfold GF I7
 rw[MG,aBM,Option.bind_some]
 unfold zA
 by_cases h:s.head? =some x
 ·have:=a3R h
  rw[if_pos (by simpa using h),if_pos h,h1,if_pos (by omega),a3U]
  rfl
 ·rw[if_neg (by simpa using h),if_neg h]
  rfl
theorem aH8 (s:List UInt8) (x:UInt8):BK s [x]=some (zA x s,decide (s.head? =some x)):=by
 have h1:((List.length ([x]:List UInt8):Nat):Int)=1:=rfl
 unfold BK G8
 rw[MG,aBM,Option.bind_some]
 unfold zA
 by_cases h:s.head? =some x
 ·have:=a3R h
  rw[if_neg (by simpa using h),if_pos h,h1,if_pos (by omega),a3U,decide_eq_true h]
  rfl
 ·rw[if_pos (by simpa using h),if_neg h,decide_eq_false h]
  rfl
theorem a3V (s:List UInt8) (x:UInt8):zM s [x]=some ():=by
 have h1:((List.length ([x]:List UInt8):Nat):Int)=1:=rfl
 unfold zM
 rw[h1,if_pos (fun hh=>by simp only[beq_iff_eq,decide_eq_true_eq] at hh;omega)]
theorem aBN (s:List UInt8) (x y:UInt8):zM s [x,y]=some ():=by
 have h1:((List.length ([x,y]:List UInt8):Nat):Int)=2:=rfl
 unfold zM
 rw[h1,if_pos (fun hh=>by simp only[beq_iff_eq,decide_eq_true_eq] at hh;omega)]
def GQ (b:UInt8):Bool:=[32,9].contains b
theorem a3W {p:UInt8→Bool}: ∀(l:List UInt8),l.drop (l.takeWhile p).length=l.dropWhile p
 |[]=>rfl
 |b::t=>by
  rw[List.takeWhile_cons,List.dropWhile_cons]
  cases h:p b with
  |true=>simp only[if_true,List.length_cons,List.drop_succ_cons];exact a3W t
  |false=>rfl
theorem aH9 (b:UInt8):(decide ((b.toNat:Int)=(32:Int))||decide ((b.toNat:Int)=(9:Int)))=GQ b:=by
 have h1:decide ((b.toNat:Int)=(32:Int))=decide (b=32):=by
  rw[Bool.eq_iff_iff,decide_eq_true_eq,decide_eq_true_eq]
  exact AT (a:=b) (b:=32)
 have h2:decide ((b.toNat:Int)=(9:Int))=decide (b=9):=by
  rw[Bool.eq_iff_iff,decide_eq_true_eq,decide_eq_true_eq]
  exact AT (a:=b) (b:=9)
 rw[h1,h2]
 unfold GQ
 rw[Bool.eq_iff_iff]
 simp
theorem aBO {l:List UInt8}(hl:fit l): ∀(n j:Nat),j+n=l.length→pF (I5 l) (j:Int)=some ((j+((l.drop j).takeWhile GQ).length:Nat):Int)
 |0,j,hj=>by
  have:j=l.length:=by omega
  subst this
  rw[List.drop_length]
  refine tN ?_
  unfold I5
  rw[if_pos (fun hh=>by simp at hh),if_pos (fun hh=>by simp at hh),if_neg (by simp)]
  rfl
 |n+1,j,hj=>by
  have hlt:j<l.length:=by omega
  unfold fit at hl
  have hst:I5 l (j:Int)=if GQ l[j]=true then some (.inl ((j+1:Nat):Int)) else some (.inr (j:Int)):=by
   unfold I5
   rw[if_pos (fun _=>qD hlt),if_pos (fun _=>qD hlt),uH hlt,aH9,sI hlt,Bool.true_and,if_pos (qV (by omega))]
   rfl
  rw[List.drop_eq_getElem_cons hlt,List.takeWhile_cons]
  cases hb:GQ l[j] with
  |true=>
   rw[CE (hst.trans (if_pos hb)),aBO hl n (j+1) (by omega)]
   simp only[if_true,List.length_cons]
   congr 1
   omega
  |false=>
   rw[tN (hst.trans (if_neg (by rw[hb];exact Bool.false_ne_true)))]
   rfl
def RC (line:List UInt8):List UInt8:=(tK 10 line).dropWhile GQ
theorem aIa (p:UInt8→Bool) (l:List UInt8):(l.dropWhile p).length≤l.length:=by
 rw[←a3W,List.length_drop]
 omega
theorem aIb (line:List UInt8):(RC line).length≤line.length:=Nat.le_trans (aIa _ _) (a3P _ _)
theorem aIc (p:UInt8→Bool) (l:List UInt8):(l.takeWhile p).length≤l.length:=(List.takeWhile_sublist p).length_le
theorem aId {line:List UInt8}(hl:fit line):G4 line=some (RC line):=by
 have hl':=hl
 unfold fit at hl'
 have hc:=a3P 10 line
 unfold G4
 rw[if_pos (fun hh=>by unfold i64;omega),if_pos (fun hh=>by simp only[beq_iff_eq,decide_eq_true_eq] at hh;omega),aBL line 10 10 rfl]
 have hb:(if decide (line.getLast? =some 10)=true then(if i64 ((List.length line:Int)- (1:Int)) then(if 0≤(0:Int)∧(0:Int)≤((List.length line:Int)- (1:Int))∧((List.length line:Int)- (1:Int))≤(List.length line:Int) then some (p4 line (0:Int) ((List.length line:Int)- (1:Int))) else none) else none) else some line)=some (tK 10 line):=by
  unfold tK
  by_cases h:line.getLast? =some 10
  ·have:=a3Q h
   rw[if_pos (by simpa using h),if_pos h,if_pos (by unfold i64;omega),if_pos (by omega),a3S this]
  ·rw[if_neg (by simpa using h),if_neg h]
 rw[hb]
 have hf:fit (tK 10 line):=by unfold fit;omega
 have hlp:=aBO hf (tK 10 line).length 0 (by omega)
 rw[List.drop_zero,Nat.zero_add] at hlp
 have htw:=aIc GQ (tK 10 line)
 unfold pW
 rw[Option.bind_some,show ((0:Nat):Int)=(0:Int) from rfl] at*
 rw[hlp,Option.bind_some,if_pos (by omega),vN,a3W]
 rfl
def tW (s:List UInt8):List UInt8×Bool:=((wG 1 s).1,decide ((wG 1 s).2.2=0)&&BO (wG 1 s).1)
theorem a3X (s:List UInt8):(tW s).1.length≤4*s.length:=J5 1 s
theorem aIe:tW []=([],true):=by rfl
theorem RD {s:List UInt8}(hs:s.length≤5000):AN s=some (tW s):=by
 have hf:fit (wG 1 s).1:=by have:=J5 1 s;unfold fit;omega
 unfold AN
 rw[aBf (by decide) (by decide) (by unfold fit;omega),Option.bind_some,(a3s _ hf).1,if_pos sX,(a3s _ hf).2]
 rfl
theorem MH {s:List UInt8}(hs:s.length≤5000):zV s=some (tW s):=by
 have hf:fit (wG 1 s).1:=by have:=J5 1 s;unfold fit;omega
 unfold zV
 rw[aBg (by decide) (by decide) (by unfold fit;omega),Option.bind_some,aAY _ hf,if_pos sX]
 rfl
def F6 (s:List UInt8):Option (List UInt8×List UInt8):=(rD 61 s).map fun k=>(tK 32 (s.take k),zA 32 (s.drop (k+1)))
def aBP:Option (List UInt8×List UInt8)→List UInt8×List UInt8×Bool
 |none=>([],[],false)
 |some p=>(p.1,p.2,true)
theorem aIf {s:List UInt8}{p:List UInt8×List UInt8}(h:F6 s=some p):p.1.length≤s.length∧p.2.length≤s.length:=by
 unfold F6 at h
 cases hk:rD 61 s with
 |none=>rw[hk] at h;cases h
 |some k=>
  rw[hk] at h
  cases h
  have h1:=a3P 32 (s.take k)
  have h2:=aH5 32 (s.drop (k+1))
  rw[List.length_take] at h1
  rw[List.length_drop] at h2
  exact⟨by show (tK 32 (s.take k)).length≤_;omega,by show (zA 32 (s.drop (k+1))).length≤_;omega⟩
theorem aIg {s:List UInt8}(hs:fit s):AK s=some (aBP (F6 s)):=by
 have hE:AJ 1 s 61=some (vD (rD 61 s)):=QM (by decide) (by decide) s 61 hs
 have hs':=hs
 unfold fit at hs'
 unfold AK
 rw[hE,Option.bind_some]
 unfold F6
 cases hk:rD 61 s with
 |none=>rfl
 |some k=>
  have hlt:=GL s.length s k (Nat.le_refl _) hk
  show (if decide ((k:Int)<0)=true then _ else _)=_
  have ht:p4 s 0 (vD (some k))=s.take k:=EX
  have hd:p4 s (vD (some k)+1) (s.length:Int)=s.drop (k+1):=vN (k:=k+1)
  have he:vD (some k)=(k:Int):=rfl
  rw[ht,hd,he,if_neg (by simp<;>omega),if_pos (by omega),if_pos (by unfold i64;omega),if_pos (by omega)]
  have hlk:(s.take k).length=k:=by rw[List.length_take];omega
  rw[if_pos (fun hh=>by unfold i64;omega),if_pos (fun hh=>by simp only[beq_iff_eq,decide_eq_true_eq] at hh;omega),aBL (s.take k) 32 32 rfl]
  have hb:(if decide ((s.take k).getLast? =some 32)=true then(if i64 ((List.length (s.take k):Int)- (1:Int)) then(if 0≤(0:Int)∧(0:Int)≤((List.length (s.take k):Int)- (1:Int))∧((List.length (s.take k):Int)- (1:Int))≤(List.length (s.take k):Int) then some (p4 (s.take k) (0:Int) ((List.length (s.take k):Int)- (1:Int))) else none) else none) else some (s.take k))=some (tK 32 (s.take k)):=by
   unfold tK
   by_cases h:(s.take k).getLast? =some 32
   ·have:=a3Q h
    rw[if_pos (by simpa using h),if_pos h,if_pos (by unfold i64;omega),if_pos (by omega),a3S this]
   ·rw[if_neg (by simpa using h),if_neg h]
  rw[hb]
  unfold pW
  rw[Option.bind_some,a3V,Option.bind_some,MG]
  unfold zA
  by_cases h:(s.drop (k+1)).head? =some 32
  ·have:=a3R h
   rw[if_pos (by simpa using h),if_pos (by omega),a3U,Option.map_some,if_pos h]
   rfl
  ·rw[if_neg (by simpa using h),Option.map_some,if_neg h]
   rfl
end Go.Proofs.YtfchbnahjcdiiaaGreatDoor
namespace Go.Proofs.YtfchbnahjcdiiaaGreatDoor
open Vc
set_option maxRecDepth 100000
def qB (f:Int) (k v:List UInt8) (bad:Bool):Int×List UInt8×List UInt8:=
 if f=0 then(1,[],[])
 else if f=1 then(2,[],[])
 else if f=8 then(9,[],[])
 else if bad=true then(0,[],[])
 else if f=2 then(3,[],v)
 else if f=3 then(if yB v=true then(4,[],v) else(0,[],[]))
 else if f=4 then(5,[],v)
 else if f=5 then(if 0≤qY v then(6,[],v) else(0,[],[]))
 else if f=6 then(if qI v=true then(7,[],v) else(0,[],[]))
 else if f=7 then(if qI k=true then(8,k,v) else(0,[],[]))
 else if f=9 then(if k=[]∨200<k.length then(0,[],[]) else(10,k,v))
 else(0,[],[])
theorem aBQ {f:Int}{k v:List UInt8}(h0:f≠0) (h1:f≠1) (h8:f≠8):qB f k v true=(0,[],[]):=by
 unfold qB
 rw[if_neg h0,if_neg h1,if_neg h8,if_pos rfl]
theorem JE {k v:List UInt8}{bad:Bool}:qB 10 k v bad=(0,[],[]):=by
 unfold qB
 rw[if_neg (by decide),if_neg (by decide),if_neg (by decide)]
 split
 ·rfl
 ·rw[if_neg (by decide),if_neg (by decide),if_neg (by decide),if_neg (by decide),if_neg (by decide),if_neg (by decide),if_neg (by decide)]
theorem aIh (v:List UInt8):y7 AR v=some (decide (0≤qY v)):=by
 unfold y7
 rw[(J2 v).2]
 rfl
theorem RE {b:Bool}(h: ¬b=true):b=false:=by simpa using h
def vG (a:List UInt8):Int×List UInt8:=
 if a=[33,116,97,103] then(3,[]) else if a=[33,115,111,117,114,99,101] then(4,[]) else if a=[33,115,116,97,116,101] then(5,[]) else if a=[33,102,108,97,103] then(6,[]) else if qR 33 58 a=true then(7,a.drop 2) else(10,[])
theorem MI {x y:UInt8}{s:List UInt8}(h:qR x y s=true): ∃r,s=x::y::r:=by
 match s,h with
 |[],h=>exact absurd h (by simp [qR])
 |[_],h=>exact absurd h (by simp [qR])
 |b::c::r,h=>
  have:b=x∧c=y:=by simpa[qR] using h
  exact⟨r,by rw[this.1,this.2]⟩
theorem aBR {k v:List UInt8}:qB 7 k v false=if qI k=true then(8,k,v) else(0,[],[]):=rfl
theorem aBS {k v:List UInt8}:qB 9 k v false=if k=[]∨200<k.length then(0,[],[]) else(10,k,v):=rfl
theorem aIi {t v:List UInt8}:yZ (33::t) v=some (qB (vG (33::t)).1 (vG (33::t)).2 v false):=by
 unfold yZ
 rw[if_neg (by simp),aAH,if_pos sX]
 have hst:y7 ([([110,101,119]:List UInt8),([102,117,122,122,121]:List UInt8),([116,114,97,110,115,108,97,116,101,100]:List UInt8),([114,101,118,105,101,119,101,100]:List UInt8),([111,98,115,111,108,101,116,101]:List UInt8)]:List (List UInt8)) v=some (decide (0≤qY v)):=aIh v
 rw[hst,if_pos sX,QF,if_pos sX,M6,Option.bind_some,J7]
 rw[if_pos (fun hh=>by obtain⟨r,hr⟩:=MI (by simpa using hh);rw[hr];simp only[List.length_cons];omega),QF,if_pos sX]
 rw[zI,zI,zI,zI]
 by_cases h1:t=[116,97,103]
 ·subst h1;cases hT:yB v<;>simp [vG,qB,qR,p9,hT]
 by_cases h2:t=[115,111,117,114,99,101]
 ·subst h2;simp [vG,qB]
 by_cases h3:t=[115,116,97,116,101]
 ·subst h3;by_cases hT:0≤qY v<;>simp [vG,qB,hT,qR,p9]
 by_cases h4:t=[102,108,97,103]
 ·subst h4;cases hT:qI v<;>simp [vG,qB,qR,p9,hT]
 have n1: ¬(33::t:List UInt8)=[33,116,97,103]:=by simpa using h1
 have n2: ¬(33::t:List UInt8)=[33,115,111,117,114,99,101]:=by simpa using h2
 have n3: ¬(33::t:List UInt8)=[33,115,116,97,116,101]:=by simpa using h3
 have n4: ¬(33::t:List UInt8)=[33,102,108,97,103]:=by simpa using h4
 unfold vG
 rw[decide_eq_false n1,decide_eq_false n2,decide_eq_false n3,decide_eq_false n4,if_neg n1,if_neg n2,if_neg n3,if_neg n4]
 simp only[Bool.false_and,Bool.false_eq_true,if_false]
 by_cases h5:qR 33 58 (33::t)=true
 ·obtain⟨r,hr⟩:=MI h5
  have hc:p4 (33::t) 2 ((33::t).length:Int)=(33::t).drop 2:=vN (k:=2)
  rw[h5,hc,Bool.true_and,if_pos rfl]
  cases hN:qI ((33::t).drop 2) with
  |true=>
   rw[if_pos rfl,if_pos (by rw[hr];simp only[List.length_cons];omega)]
   show some ((8:Int),(33::t).drop 2,v)=some (qB 7 ((33::t).drop 2) v false)
   rw[aBR,if_pos hN]
  |false=>
   rw[if_neg Bool.false_ne_true,if_pos (by simp only[List.length_cons];omega),if_pos (by rfl)]
   show some ((0:Int),[],[])=some (qB 7 ((33::t).drop 2) v false)
   rw[aBR,if_neg (by rw[hN];exact Bool.false_ne_true)]
 ·rw[RE h5,Bool.false_and,if_neg Bool.false_ne_true,if_neg Bool.false_ne_true,if_pos (by simp only[List.length_cons];omega),if_pos (by rfl),JE]
theorem aIj {c:UInt8}{u v:List UInt8}(hc:c≠33) (hl:(c::u).length≤5000):yZ (c::u) v=some (qB 9 (tW (c::u)).1 v (!(tW (c::u)).2)):=by
 unfold yZ
 have hn: ∀w:List UInt8,decide ((c::u:List UInt8)=33::w)=false:=fun w=>decide_eq_false (fun h=>hc (by injection h))
 have hb:qR 33 58 (c::u)=false:=by
  cases h:qR 33 58 (c::u) with
  |false=>rfl
  |true=>obtain⟨r,hr⟩:=MI h;exact absurd (by injection hr) hc
 have h33:decide (p9 (c::u) 0=33)=false:=by
  refine decide_eq_false fun h=>hc ?_
  have:(c.toNat:Int)=((33:UInt8).toNat:Int):=h
  exact AT.1 this
 rw[if_neg (by simp),aAH,if_pos sX]
 simp only[hn,Bool.false_and,Bool.false_eq_true,if_false]
 rw[if_pos (fun h=>by cases h),if_pos (fun h=>by cases h),M6,Option.bind_some,J7,hb]
 rw[if_pos (fun h=>by cases h),if_pos (fun h=>by cases h),Bool.false_and,if_neg Bool.false_ne_true,if_pos (by simp only[List.length_cons];omega),h33,if_neg Bool.false_ne_true,MH hl,Option.bind_some]
 cases hb2:(tW (c::u)).2 with
 |false=>rfl
 |true=>
  simp only[Bool.not_true,Bool.false_or,Bool.or_eq_true,decide_eq_true_eq]
  rw[aBS]
  by_cases hk:(tW (c::u)).1=[]∨200<(tW (c::u)).1.length
  ·rw[if_pos hk,if_pos (by rcases hk with h|h;exact .inl h;exact .inr (by omega))]
  ·rw[if_neg hk,if_neg (fun h=>hk (by rcases h with h|h;exact .inl h;exact .inr (by omega)))]
theorem aIk {x b:UInt8}(h:b≠x) (t:List UInt8): ∃t',tK x (b::t)=b::t':=by
 unfold tK
 split
 ·rename_i hl
  cases t with
  |nil=>simp at hl;exact absurd hl h
  |cons c r=>exact⟨(c::r).dropLast,rfl⟩
 ·exact⟨t,rfl⟩
theorem aIl {x:UInt8}(b:UInt8) (t:List UInt8):tK x (b::t)=[]∨∃t',tK x (b::t)=b::t':=by
 unfold tK
 split
 ·cases t with
  |nil=>exact .inl rfl
  |cons c r=>exact .inr ⟨(c::r).dropLast,rfl⟩
 ·exact .inr ⟨t,rfl⟩
theorem aIm {b:UInt8}{u:List UInt8}(h:rD 61 (b::u)=some 0):b=61:=by
 by_cases h1:b=61
 ·exact h1
 ·exfalso
  by_cases h2:b=92
  ·rw[a3v h1 h2] at h
   cases h3:rD 61 (u.drop 1)<;>rw[h3] at h<;>simp at h
  ·rw[a3w h1 h2] at h
   cases h3:rD 61 u<;>rw[h3] at h<;>simp at h
theorem aIn (a:List UInt8):(vG a).1≠0∧(vG a).1≠1∧(vG a).1≠8∧0≤(vG a).1∧(vG a).1≤10:=by
 unfold vG
 repeat' split
 all_goals (dsimp only;decide)
theorem aIo (a:List UInt8):(vG a).2.length≤a.length:=by
 unfold vG
 repeat' split
 all_goals simp
theorem aIp {s a v0:List UInt8}(h:AK s=some (a,v0,true)) (hv:v0.length≤5000):AO s=some ((vG a).1,(vG a).2,(tW v0).1,!(tW v0).2):=by
 unfold AO
 rw[h,Option.bind_some,if_neg (show¬(!true)=true by decide),RD hv,Option.bind_some,aBN,Option.bind_some,J7]
 unfold vG
 by_cases h1:a=[33,116,97,103]
 ·rw[if_pos (by simpa using h1),if_pos h1]
 rw[if_neg (by simpa using h1),if_neg h1]
 by_cases h2:a=[33,115,111,117,114,99,101]
 ·rw[if_pos (by simpa using h2),if_pos h2]
 rw[if_neg (by simpa using h2),if_neg h2]
 by_cases h3:a=[33,115,116,97,116,101]
 ·rw[if_pos (by simpa using h3),if_pos h3]
 rw[if_neg (by simpa using h3),if_neg h3]
 by_cases h4:a=[33,102,108,97,103]
 ·rw[if_pos (by simpa using h4),if_pos h4]
 rw[if_neg (by simpa using h4),if_neg h4]
 by_cases h5:qR 33 58 a=true
 ·obtain⟨r,hr⟩:=MI h5
  rw[if_pos h5,if_pos h5,if_pos (by rw[hr];simp only[List.length_cons];omega)]
  rw[show p4 a 2 (a.length:Int)=a.drop 2 from vN (k:=2)]
 ·rw[if_neg h5,if_neg h5]
theorem aIq {line:List UInt8}(hl:line.length≤5000): ∃(f:Int) (k v:List UInt8) (bad:Bool),zU line=some (f,k,v,bad)∧yA (RC line)=some (qB f k v bad)∧k.length≤20000∧v.length≤20000∧0≤f∧f≤10:=by
 have hcl:=aIb line
 unfold zU yA
 rw[aId (by unfold fit;omega),Option.bind_some]
 generalize RC line=s at hcl
 have hs:s.length≤5000:=by omega
 cases s with
 |nil=>exact⟨0,[],[],false,rfl,rfl,by decide,by decide,by decide,by decide⟩
 |cons b u=>
  rw[if_neg (show¬decide ((b::u:List UInt8)=[])=true by simp),if_neg (show¬decide ((b::u:List UInt8)=[])=true by simp),aBN,Option.bind_some,M6,J7]
  by_cases hp:qR 35 46 (b::u)=true
  ·obtain⟨r,hr⟩:=MI hp
   rw[if_pos hp,if_pos hp,hr,if_neg (show¬decide ((35::46::r:List UInt8)=[37,37])=true by simp)]
   rw[hr] at hs
   have hc2:p4 (35::46::r) 2 ((35::46::r).length:Int)=r:=vN (k:=2)
   rw[if_pos (show 0≤(2:Int)∧(2:Int)≤((35::46::r).length:Int)∧((35::46::r).length:Int)≤((35::46::r).length:Int) by simp only[List.length_cons];omega),hc2,aH8]
   cases r with
   |nil=>
    refine⟨2,[],[],false,if_pos (by simp),?_,by decide,by decide,by decide,by decide⟩
    show ((zV []).bind _)=_
    rw[MH (by decide),Option.bind_some,aIe]
    rfl
   |cons c w=>
    have hb2:p9 (35::46::c::w) 2=(c.toNat:Int):=rfl
    rw[if_neg (show¬decide ((35::46::c::w:List UInt8)=[35,46])=true by simp),if_pos (show 0≤(2:Int)∧(2:Int)<((35::46::c::w).length:Int) by simp only[List.length_cons];omega),hb2]
    by_cases h32:c=32
    ·subst h32
     have hc3:p4 (35::46::32::w) 3 ((35::46::32::w).length:Int)=w:=vN (k:=3)
     simp only[List.length_cons] at hs
     have hw:w.length≤5000:=by omega
     refine⟨2,[],(tW w).1,!(tW w).2,?_,?_,by decide,by have:=a3X w;omega,by decide,by decide⟩
     ·rw[if_neg (by decide),if_pos (show 0≤(3:Int)∧(3:Int)≤((35::46::32::w).length:Int)∧((35::46::32::w).length:Int)≤((35::46::32::w).length:Int) by simp only[List.length_cons];omega),hc3,RD hw]
      rfl
     ·show ((zV w).bind _)=_
      rw[MH hw,Option.bind_some]
      cases hb2:(tW w).2 with
      |false=>rfl
      |true=>rfl
    ·have hcb:zA 32 (c::w)=c::w:=by unfold zA;rw[if_neg (by simpa using h32)]
     refine⟨10,[],[],false,?_,?_,by decide,by decide,by decide,by decide⟩
     ·rw[if_pos]
      simp only[Bool.not_eq_true',decide_eq_false_iff_not]
      intro h
      exact h32 (AT.1 (show (c.toNat:Int)=((32:UInt8).toNat:Int) from h))
     ·simp only[List.length_cons] at hs
      rw[Option.bind_some,Option.bind_some]
      rw[hcb,MH (by simp only[List.length_cons];omega),Option.bind_some,JE,if_pos]
      rw[Bool.or_eq_true]
      right
      simp [h32]
  ·rw[if_neg hp,if_neg hp,a3V,Option.bind_some,MG,if_pos (show 0≤(0:Int)∧(0:Int)<((b::u).length:Int) by simp only[List.length_cons];omega)]
   by_cases h35:b=35
   ·subst h35
    refine⟨1,[],[],false,if_pos (by simp),?_,by decide,by decide,by decide,by decide⟩
    rw[if_neg (show¬decide ((35::u:List UInt8)=[37,37])=true by simp),if_pos (show decide (p9 (35::u) 0=35)=true from rfl)]
    rfl
   ·rw[if_neg (by simpa using h35),a3V,Option.bind_some,MG]
    have hbyte: ¬decide (p9 (b::u) 0=35)=true:=by
     simp only[decide_eq_true_eq]
     intro h
     exact h35 (AT.1 (show (b.toNat:Int)=((35:UInt8).toNat:Int) from h))
    rw[if_neg hbyte]
    have hfs:fit (b::u):=by unfold fit;omega
    have hE:D2 1 (b::u) 61=some (vD (rD 61 (b::u))):=by rw[aA0];exact QM (by decide) (by decide) (b::u) 61 hfs
    rw[hE,Option.bind_some]
    by_cases hpc:(b::u:List UInt8)=[37,37]
    ·rw[hpc]
     exact⟨8,[],[],false,rfl,rfl,by decide,by decide,by decide,by decide⟩
    rw[if_neg (show¬decide ((b::u:List UInt8)=[37,37])=true by simpa using hpc),if_neg (show¬decide ((b::u:List UInt8)=[37,37])=true by simpa using hpc)]
    have hsep:=aIg hfs
    cases hk:rD 61 (b::u) with
    |none=>
     have hs0:F6 (b::u)=none:=by unfold F6;rw[hk];rfl
     rw[hs0] at hsep
     refine⟨10,[],[],false,?_,?_,by decide,by decide,by decide,by decide⟩
     ·by_cases h33:b=33
      ·rw[if_pos (by simpa using h33)]
       unfold AO
       rw[hsep]
       rfl
      ·rw[if_neg (by simpa using h33),hsep]
       rfl
     ·rw[JE]
      rfl
    |some k=>
     have hlt:=GL (b::u).length (b::u) k (Nat.le_refl _) hk
     have hs1:F6 (b::u)=some (tK 32 ((b::u).take k),zA 32 ((b::u).drop (k+1))):=by unfold F6;rw[hk];rfl
     have hlen:=aIf hs1
     rw[hs1] at hsep
     have ht:p4 (b::u) 0 (vD (some k))=(b::u).take k:=EX
     have hd:p4 (b::u) (vD (some k)+1) ((b::u).length:Int)=(b::u).drop (k+1):=vN (k:=k+1)
     have htk:fit ((b::u).take k):=by unfold fit;rw[List.length_take];omega
     rw[Option.bind_some,ht,hd,show vD (some k)=(k:Int) from rfl,if_neg (show¬decide ((k:Int)<0)=true by simp),if_pos (show 0≤(0:Int)∧(0:Int)≤(k:Int)∧(k:Int)≤((b::u).length:Int) by omega)]
     rw[a3T htk,Option.bind_some,if_pos (show i64 ((k:Int)+1) by unfold i64;omega),if_pos (show 0≤((k:Int)+1)∧((k:Int)+1)≤((b::u).length:Int)∧((b::u).length:Int)≤((b::u).length:Int) by omega),aH7,Option.bind_some]
     have hany:tK 32 ((b::u).take k)=[]∨∃t',tK 32 ((b::u).take k)=b::t':=by
      cases k with
      |zero=>exact .inl rfl
      |succ k=>exact aIl b (u.take k)
     have hbang:b=33→∃t',tK 32 ((b::u).take k)=33::t':=by
      rintro rfl
      cases k with
      |zero=>exact absurd (aIm hk) (by decide)
      |succ k=>exact aIk (by decide) _
     generalize tK 32 ((b::u).take k)=a at hsep hlen hany hbang⊢
     generalize zA 32 ((b::u).drop (k+1))=v0 at hsep hlen⊢
     dsimp only at hlen
     have hv0:v0.length≤5000:=by omega
     have hlv:=a3X v0
     rw[MH hv0,Option.bind_some]
     by_cases h33:b=33
     ·obtain⟨t',rfl⟩:=hbang h33
      have hf:=aIn (33::t')
      have hk2:=aIo (33::t')
      refine⟨(vG (33::t')).1,(vG (33::t')).2,(tW v0).1,!(tW v0).2,?_,?_,by omega,by omega,hf.2.2.2.1,hf.2.2.2.2⟩
      ·rw[if_pos (by simpa using h33),aIp hsep hv0]
       rfl
      ·cases hb2:(tW v0).2 with
       |false=>rw[if_pos (by rfl),show (!false)=true from rfl,aBQ hf.1 hf.2.1 hf.2.2.1]
       |true=>
        rw[if_neg (by decide),aIi,Option.bind_some]
        rfl
     ·rw[if_neg (by simpa using h33),hsep,Option.bind_some]
      rcases hany with rfl|⟨t',rfl⟩
      ·refine⟨10,[],[],false,rfl,?_,by decide,by decide,by decide,by decide⟩
       rw[JE]
       cases hb2:(tW v0).2 with
       |false=>rfl
       |true=>rw[if_neg (by decide),show yZ [] (tW v0).1=some (0,[],[]) by unfold yZ;rfl];rfl
      ·have ha:(b::t').length≤5000:=by omega
       have hla:=a3X (b::t')
       refine⟨9,(tW (b::t')).1,(tW v0).1,(!(tW (b::t')).2)||(!(tW v0).2),?_,?_,by omega,by omega,by decide,by decide⟩
       ·unfold aBP
        dsimp only
        rw[if_neg (by simp),RD ha,Option.bind_some,RD hv0,Option.bind_some]
       ·cases hb2:(tW v0).2 with
        |false=>rw[if_pos (by rfl),show (!false)=true from rfl,Bool.or_true,aBQ (by decide) (by decide) (by decide)]
        |true=>
         rw[if_neg (by decide),aIj h33 ha,Option.bind_some,show (!true)=false from rfl,Bool.or_false]
end Go.Proofs.YtfchbnahjcdiiaaGreatDoor
namespace Go.Proofs.YtfchbnahjcdiiaaGreatDoor
open Vc
set_option maxRecDepth 100000
theorem aIr {s:List UInt8}{a i:Nat}(hai:a≤i) (hi:i<s.length) (hno: ∀j (h:j<s.length),a≤j→j<i→s[j]≠10) (h10:s[i]=10):((s.drop a).findIdx? fun b=>decide (b=10))=some (i-a):=by
  rw[List.findIdx?_eq_some_iff_getElem]
  refine⟨by rw[List.length_drop];omega,?_,fun j hj=> ?_⟩
  · rw[List.getElem_drop]
    simp only[decide_eq_true_eq]
    rw[←h10]
    congr 1
    omega
  · rw[List.getElem_drop]
    simp only[decide_eq_true_eq]
    exact hno (a+j) (by omega) (by omega) (by omega)
theorem aIs {s:List UInt8}{a:Nat}(hno: ∀j (h:j<s.length),a≤j→s[j]≠10):((s.drop a).findIdx? fun b=>decide (b=10))=none:=by
  rw[List.findIdx?_eq_none_iff]
  intro x hx
  obtain⟨j,hj,rfl⟩:=List.getElem_of_mem hx
  rw[List.getElem_drop]
  simp only[decide_eq_false_iff_not]
  rw[List.length_drop] at hj
  exact hno (a+j) (by omega) (by omega)
theorem aIt {s:List UInt8}{a i:Nat}(hai:a≤i) (hi:i<s.length) (hno: ∀j (h:j<s.length),a≤j→j<i→s[j]≠10) (h10:s[i]=10):sG s a=i+1:=by
  unfold sG
  rw[QW,aIr hai hi hno h10]
  rw[show vD (some (i-a))=((i-a:Nat):Int) from rfl,if_pos (by omega),Int.toNat_natCast]
  omega
theorem aIu {s:List UInt8}{a:Nat}(hno: ∀j (h:j<s.length),a≤j→s[j]≠10):sG s a=s.length:=by
  unfold sG
  rw[QW,aIs hno]
  exact if_neg (by decide)
theorem RF {s:List UInt8}{n i:Nat}(h:s.length≤i):sO s n i=[]:=by
  cases n with
  |zero=>rfl
  |succ n=>rw[sO,if_neg (by omega)]
theorem aBT {s:List UInt8}{a b:Nat}:p4 s (a:Int) (b:Int)=(s.drop a).take (b-a):=by
  unfold p4
  rw[Int.toNat_natCast,Int.toNat_natCast]
def aBU (s:List UInt8) (q:List (List UInt8)×Int):Option (List (List UInt8)):=
  if (decide (q.2<(List.length s:Int)))=true then
   if 0≤q.2∧q.2≤(List.length s:Int)∧(List.length s:Int)≤(List.length s:Int) then
    if (List.length q.1+List.length ([(p4 s q.2 (List.length s:Int))]:List (List UInt8)))*16≤140737488355328 then
     some ((q.1++([(p4 s q.2 (List.length s:Int))]:List (List UInt8))))
    else none
   else none
  else
   some (q.1)
theorem a3Y {s:List UInt8}(hs:s.length≤100000): ∀(m i a n:Nat) (out:List (List UInt8)),i+m=s.length→a≤i→s.length≤n+a→out.length≤a→(∀j (h:j<s.length),a≤j→j<i→s[j]≠10)→
    pW (pF (E8 s) (out,(a:Int),(i:Int))) (aBU s)=some (out++(sO s n a).map (·.2))
  | 0,i,a,n,out,hm,hai,hn,ho,hno=>by
    have:i=s.length:=by omega
    subst this
    rw[tN (r:=(out,(a:Int))) (by unfold E8;dsimp only;rw[if_neg (wF _)])]
    unfold pW aBU
    rw[Option.bind_some]
    dsimp only
    by_cases ha:a<s.length
    · obtain⟨n,rfl⟩: ∃n',n=n'+1:=⟨n-1,by omega⟩
      have hlt:=aIu (s:=s) (a:=a) (fun j h h1=>hno j h h1 h)
      rw[if_pos (by simpa using ha),if_pos (by omega),if_pos (by simp only[List.length_cons,List.length_nil];omega),sO,if_pos ha,hlt,RF (Nat.le_refl _),aBT]
      rfl
    ·rw[if_neg (by simp;omega),RF (by omega),List.map_nil,List.append_nil]
  | m+1,i,a,n,out,hm,hai,hn,ho,hno=>by
    have hi:i<s.length:=by omega
    by_cases h10:s[i]=10
    · have hst:E8 s (out,(a:Int),(i:Int))=some (.inl (out++[(s.drop a).take (i+1-a)],((i+1:Nat):Int),((i+1:Nat):Int))):=by
        unfold E8
        dsimp only
        rw[if_pos (sI hi),if_pos (qD hi),uH hi,h10,if_pos (by rfl),if_pos (qV (by omega)),if_pos (by omega),if_pos (by simp only[List.length_cons,List.length_nil];omega)]
        rw[show ((i:Int)+1)=((i+1:Nat):Int) by omega,aBT,if_pos (show i64 ((i+1:Nat):Int) by unfold i64;omega),if_pos (show i64 ((i+1:Nat):Int) by unfold i64;omega)]
      have hlt:=aIt hai hi hno h10
      obtain⟨n,rfl⟩: ∃n',n=n'+1:=⟨n-1,by omega⟩
      rw[CE hst,a3Y hs m (i+1) (i+1) n _ (by omega) (Nat.le_refl _) (by omega) (by simp;omega) (fun j h h1 h2=>by omega),sO,if_pos (by omega),hlt]
      simp
    · have hst:E8 s (out,(a:Int),(i:Int))=some (.inl (out,(a:Int),((i+1:Nat):Int))):=by
        unfold E8
        dsimp only
        rw[if_pos (sI hi),if_pos (qD hi),uH hi,if_neg (by simp only[decide_eq_true_eq];intro h;exact h10 (AT.1 (show (s[i].toNat:Int)=((10:UInt8).toNat:Int) from h))),if_pos (qV (by omega))]
        rfl
      rw[CE hst,a3Y hs m (i+1) a n out (by omega) (by omega) hn ho (fun j h h1 h2=>by
        by_cases hj:j=i
        ·subst hj;exact h10
        ·exact hno j h h1 (by omega))]
theorem aIv {s:List UInt8}(hs:s.length≤100000):E9 s=some ((tH s).map (·.2)):=by
  have h:=a3Y hs s.length 0 0 s.length [] (by omega) (Nat.le_refl _) (by omega) (Nat.le_refl _) (fun j h h1 h2=>by omega)
  unfold E9
  exact h
end Go.Proofs.YtfchbnahjcdiiaaGreatDoor
namespace Go.Proofs.YtfchbnahjcdiiaaGreatDoor
open Vc
set_option maxRecDepth 100000
theorem BW {v:Ty}(a b:Int) (y:v.den): ∀l:List (Int×v.den),mget (.int .i64) v (qK (.int .i64) v a y l) b=if b=a then y else mget (.int .i64) v l b
 |[]=>by
  show (if decide (b=a)=true then y else v.zero)=if b=a then y else v.zero
  by_cases h:b=a<;>simp [h]
 |(x,z)::r=>by
  have ih:=BW a b y r
  show mget (.int .i64) v (if decide (a=x)=true then(a,y)::r else(x,z)::qK (.int .i64) v a y r) b=if b=a then y else(if decide (b=x)=true then z else mget (.int .i64) v r b)
  by_cases h:a=x
  ·rw[if_pos (decide_eq_true h)]
   show (if decide (b=a)=true then y else mget (.int .i64) v r b)=_
   by_cases hb:b=a
   ·rw[if_pos (decide_eq_true hb),if_pos hb]
   ·rw[if_neg (by simpa using hb),if_neg hb,if_neg (by rw[←h];simpa using hb)]
  ·rw[if_neg (by simpa using h)]
   show (if decide (b=x)=true then z else mget (.int .i64) v (qK (.int .i64) v a y r) b)=_
   rw[ih]
   by_cases hb:b=a
   ·rw[if_pos hb,if_pos hb,if_neg (by rw[hb];simpa using h)]
   ·rw[if_neg hb,if_neg hb]
def AllT (l:List (List UInt8×Bool)):Prop:= ∀p∈l,p.2=true
theorem aBV {a:List UInt8}: ∀{l:List (List UInt8×Bool)},AllT l→mget .str .bool l a=false→qK .str .bool a true l=l++[(a,true)]
 |[],_,_=>rfl
 |(x,z)::r,h,hg=>by
  have hz:z=true:=h (x,z) List.mem_cons_self
  have hg':(if decide (a=x)=true then z else mget .str .bool r a)=false:=hg
  show (if decide (a=x)=true then(a,true)::r else(x,z)::qK .str .bool a true r)=_
  by_cases hx:a=x
  ·rw[if_pos (decide_eq_true hx),hz] at hg';cases hg'
  ·rw[if_neg (by simpa using hx)] at hg'⊢
   rw[aBV (fun p hp=>h p (List.mem_cons_of_mem _ hp)) hg']
   rfl
theorem aBW {l:List (List UInt8×Bool)}{a:List UInt8}(h:AllT l) (hg:mget .str .bool l a=false):AllT (qK .str .bool a true l)∧(qK .str .bool a true l).length=l.length+1:=by
 rw[aBV h hg]
 refine⟨fun p hp=> ?_,by simp⟩
 rcases List.mem_append.1 hp with hp|hp
 ·exact h p hp
 ·rw[List.mem_singleton.1 hp]
structure BI (cm:List (List UInt8)) (fl:List (List UInt8)) (fd:List Fld) (once:List (Int×Bool)) (fm dm:List (List UInt8×Bool)) (hs ht:Bool):Prop where
 c:cm.length≤20
 f:fl.length≤20
 d:fd.length≤20
 o5:mget (.int .i64) .bool once 5=hs
 o6:mget (.int .i64) .bool once 6=ht
 g1: ∀x,mget .str .bool fm x=fl.any fun y=>decide (y=x)
 g1t:AllT fm
 g1n:fm.length=fl.length
 g2: ∀x,mget .str .bool dm x=fd.any fun y=>decide (y.1=x)
 g2t:AllT dm
 g2n:dm.length=fd.length
theorem a3Z:BI [] [] [] [] [] [] false false:=⟨by decide,by decide,by decide,rfl,rfl,fun _=>rfl,fun _ h=>by(cases h),rfl,fun _=>rfl,fun _ h=>by(cases h),rfl⟩
theorem aIw (l:List (List UInt8)) (s:List UInt8) (hl:fit l):G5 l s=some (l.any fun x=>decide (x=s)):=by
 unfold fit at hl
 have h:=zL (f:=L5 l s) (l:=l) (fun x=>decide (x=s)) (fun _=>true) (fun i h=>by
  unfold L5
  rw[if_pos (sI h),if_pos (qD h),wD (t:= .str) h,if_pos (qV (by omega))]) (by
  unfold L5
  rw[if_neg (wF _)])
 unfold G5
 rw[h,BN,QG]
theorem aBX {l:List (List UInt8)}{x:List UInt8}(hl:fit l): ∀(n j:Nat),j+n=l.length→pF (G6 l x) (j:Int)=some ((j+((l.drop j).findIdx? fun y=> !Op.bytesLess y x).getD n:Nat):Int)
 |0,j,hj=>by
  have:j=l.length:=by omega
  subst this
  rw[List.drop_length]
  refine tN ?_
  unfold G6
  rw[if_pos (fun hh=>by simp at hh),if_neg (by simp)]
  rfl
 |n+1,j,hj=>by
  have hlt:j<l.length:=by omega
  unfold fit at hl
  have hst:G6 l x (j:Int)=if Op.bytesLess l[j] x=true then some (.inl ((j+1:Nat):Int)) else some (.inr (j:Int)):=by
   unfold G6
   rw[if_pos (fun _=>qD hlt),wD (t:= .str) hlt,sI hlt,Bool.true_and,if_pos (qV (by omega))]
   rfl
  rw[List.drop_eq_getElem_cons hlt,List.findIdx?_cons]
  cases hb:Op.bytesLess l[j] x with
  |true=>
   rw[CE (hst.trans (if_pos hb)),aBX hl n (j+1) (by omega)]
   simp only[Bool.not_true,Bool.false_eq_true,if_false]
   cases(l.drop (j+1)).findIdx? fun y=> !Op.bytesLess y x with
   |none=>simp;omega
   |some q=>simp;omega
  |false=>
   rw[tN (hst.trans (if_neg (by rw[hb];exact Bool.false_ne_true)))]
   simp
theorem aIx {l:List (List UInt8)}(hl:fit l) (x:List UInt8):EG l x=some (F1 l x):=by
 have h:=aBX (x:=x) hl l.length 0 (by omega)
 have hl':=hl
 unfold fit at hl'
 have hk:=aBs l x
 rw[List.drop_zero,Nat.zero_add] at h
 have h2:pF (G6 l x) (0:Int)=some ((uK l x:Nat):Int):=h
 unfold EG
 rw[h2]
 unfold pW
 rw[Option.bind_some,if_pos (by omega),EX,vN]
 have ht:(l.take (uK l x)).length=uK l x:=by rw[List.length_take];omega
 have hd:(l.drop (uK l x)).length=l.length-uK l x:=List.length_drop
 rw[if_pos (by rw[ht];simp only[List.length_nil];omega),if_pos (by simp only[List.nil_append,List.length_cons,List.length_nil];rw[ht];omega),if_pos (by omega),if_pos (by simp only[List.nil_append,List.length_append,List.length_cons,List.length_nil];rw[ht,hd];omega)]
 rfl
theorem aIy {l:List Fld}{n v:List UInt8}(h:(l.any fun y=>decide (y.1=n))=false):(xL l n v).length=l.length+1∧∀x,((xL l n v).any fun y=>decide (y.1=x))=(decide (n=x)||l.any fun y=>decide (y.1=x)):=by
 have hk:xK l n=none:=by
  unfold xK
  have:=a3f (p:=fun y:Fld=>decide (y.1=n)) (l:=l)
  rw[h] at this
  cases hf:l.findIdx? fun y=>decide (y.1=n) with
  |none=>rfl
  |some k=>rw[hf] at this;cases this
 have he:xL l n v=l.take (AS l n)++[(n,v,())]++l.drop (AS l n):=by unfold xL;rw[hk];rfl
 have hle:=a3i l n
 rw[he]
 refine⟨by simp;omega,fun x=> ?_⟩
 have ha:(l.any fun y=>decide (y.1=x))=((l.take (AS l n)).any (fun y=>decide (y.1=x))||(l.drop (AS l n)).any fun y=>decide (y.1=x)):=by
  rw[←List.any_append,List.take_append_drop]
 rw[List.any_append,List.any_append,ha]
 simp only[List.any_cons,List.any_nil,Bool.or_false]
 cases(l.take (AS l n)).any (fun y=>decide (y.1=x))<;>cases decide (n=x)<;>rfl
section
variable {cm:List (List UInt8)}{fl:List (List UInt8)}{fd:List Fld}{once:List (Int×Bool)}{fm dm:List (List UInt8×Bool)}{hs ht:Bool}(h:BI cm fl fd once fm dm hs ht)
variable {src x1 x2 a1 a2:List UInt8}{a3:List (List UInt8)}{st op op':Int}{k v:List UInt8}{bad:Bool}(hk:k.length≤20000) (hv:v.length≤20000)
def GR (cm:List (List UInt8)) (fl:List (List UInt8)) (fd:List Fld) (once:List (Int×Bool)) (fm dm:List (List UInt8×Bool)) (hs ht:Bool) (src x1 x2 a1 a2:List UInt8) (a3:List (List UInt8)) (st op op':Int) (f:Int) (k v:List UInt8) (bad:Bool):Prop:=
 ((qB f k v bad).1=0∧∃r,sM ((x1,(src,(x2,(cm,(qH fl,(st,(fd,()))))))),(hs,(ht,(op',())))) (f,(k,(v,(bad,()))))=some r∧r.2.2.2.2.2.2.2=3)∨
 ((qB f k v bad).1=f+1∧∃e cm' src' st' fd' once' fm' dm' fl' hs' ht',rX cm a1 src a2 a3 (st,(fd,())) (op,()) ((qB f k v bad).1,((qB f k v bad).2.1,((qB f k v bad).2.2,()))) once fm dm fl=some (e,cm',src',st',fd',once',fm',dm',fl')∧
  sM ((x1,(src,(x2,(cm,(qH fl,(st,(fd,()))))))),(hs,(ht,(op',())))) (f,(k,(v,(bad,()))))=some (src',cm',qH fl',st',fd',hs',ht',e)∧BI cm' fl' fd' once' fm' dm' hs' ht'∧mget (.int .i64) .bool once' 4=mget (.int .i64) .bool once 4)
include h
theorem aBY:GR cm fl fd once fm dm hs ht src x1 x2 a1 a2 a3 st op op' 2 k v bad:=by
 cases bad with
 |true=>exact .inl ⟨rfl,(src,cm,qH fl,st,fd,hs,ht,3),by unfold sM;dsimp only;rw[if_pos (show decide ((2:Int)=2)=true from rfl),if_pos rfl],rfl⟩
 |false=>
  refine .inr ⟨rfl,?_⟩
  rw[show qB 2 k v false=(3,[],v) from rfl]
  unfold sM rX
  dsimp only
  have hc:=h.c
  rw[if_pos (show decide ((2:Int)=2)=true from rfl),if_neg Bool.false_ne_true,if_pos (show decide ((3:Int)=3)=true from rfl)]
  by_cases h20:cm.length=20
  ·rw[if_pos (by simp;omega),if_pos (by simp;omega)]
   exact⟨_,_,_,_,_,_,_,_,_,_,_,rfl,rfl,h,rfl⟩
  ·rw[if_neg (show¬decide ((cm.length:Int)=20)=true by simp;omega),if_pos (by simp only[List.length_cons,List.length_nil];omega),if_neg (show¬decide ((20:Int)≤(cm.length:Int))=true by simp;omega),if_pos (by simp only[List.length_nil];omega),if_pos (by simp only[List.nil_append,List.length_cons,List.length_nil];omega)]
   exact⟨_,_,_,_,_,_,_,_,_,_,_,rfl,rfl,⟨by simp;omega,h.f,h.d,h.o5,h.o6,h.g1,h.g1t,h.g1n,h.g2,h.g2t,h.g2n⟩,rfl⟩
theorem aIz:GR cm fl fd once fm dm hs ht src x1 x2 a1 a2 a3 st op op' 4 k v bad:=by
 cases bad with
 |true=>exact .inl ⟨rfl,(src,cm,qH fl,st,fd,hs,ht,3),by unfold sM;dsimp only;rw[if_neg (show¬decide ((4:Int)=2)=true by decide),if_pos (show decide ((4:Int)=4)=true from rfl),if_pos rfl],rfl⟩
 |false=>
  refine .inr ⟨rfl,?_⟩
  rw[show qB 4 k v false=(5,[],v) from rfl]
  unfold sM rX
  dsimp only
  rw[if_neg (show¬decide ((4:Int)=2)=true by decide),if_pos (show decide ((4:Int)=4)=true from rfl),if_neg Bool.false_ne_true,if_neg (show¬decide ((5:Int)=3)=true by decide),if_neg (show¬decide ((5:Int)=4)=true by decide),if_pos (show decide ((5:Int)=5)=true from rfl)]
  unfold pW
  rw[Option.bind_some]
  rw[if_pos (show decide ((5:Int)=5)=true from rfl),h.o5]
  cases hs with
  |true=>
   rw[if_pos rfl,if_pos rfl]
   exact⟨_,_,_,_,_,_,_,_,_,_,_,rfl,rfl,h,rfl⟩
  |false=>
   rw[if_neg Bool.false_ne_true,if_neg Bool.false_ne_true,if_pos (show decide ((5:Int)=5)=true from rfl)]
   refine⟨_,_,_,_,_,_,_,_,_,_,_,rfl,rfl,⟨h.c,h.f,h.d,?_,?_,h.g1,h.g1t,h.g1n,h.g2,h.g2t,h.g2n⟩,?_⟩
   ·rw[BW,if_pos rfl]
   ·rw[BW,if_neg (by decide)];exact h.o6
   ·rw[BW,if_neg (by decide)]
theorem aIA:GR cm fl fd once fm dm hs ht src x1 x2 a1 a2 a3 st op op' 5 k v bad:=by
 cases bad with
 |true=>exact .inl ⟨rfl,(src,cm,qH fl,st,fd,hs,ht,3),by unfold sM;dsimp only;rw[if_neg (show¬decide ((5:Int)=2)=true by decide),if_neg (show¬decide ((5:Int)=4)=true by decide),if_pos (show decide ((5:Int)=5)=true from rfl),if_pos (fun hh=>by cases hh)];rfl,rfl⟩
 |false=>
  by_cases hst:0≤qY v
  ·have hp:qB 5 k v false=(6,[],v):=by
    show (if 0≤qY v then((6:Int),([]:List UInt8),v) else(0,[],[]))=_
    rw[if_pos hst]
   refine .inr ⟨by rw[hp];rfl,?_⟩
   rw[hp]
   unfold sM rX
   dsimp only
   rw[if_neg (show¬decide ((5:Int)=2)=true by decide),if_neg (show¬decide ((5:Int)=4)=true by decide),if_pos (show decide ((5:Int)=5)=true from rfl),QH,if_pos sX,zI,Bool.false_or,if_neg (show¬decide (qY v<0)=true by simp;omega)]
   rw[if_neg (show¬decide ((6:Int)=3)=true by decide),if_neg (show¬decide ((6:Int)=4)=true by decide),if_neg (show¬decide ((6:Int)=5)=true by decide)]
   unfold pW
   rw[Option.bind_some]
   rw[if_pos (show decide ((6:Int)=6)=true from rfl),h.o6]
   cases ht with
   |true=>
    rw[if_pos rfl,if_pos rfl]
    exact⟨_,_,_,_,_,_,_,_,_,_,_,rfl,rfl,h,rfl⟩
   |false=>
    rw[if_neg Bool.false_ne_true,if_neg Bool.false_ne_true,if_neg (show¬decide ((6:Int)=5)=true by decide),if_pos (show decide ((6:Int)=6)=true from rfl)]
    rw[show xG ([([110,101,119]:List UInt8),([102,117,122,122,121]:List UInt8),([116,114,97,110,115,108,97,116,101,100]:List UInt8),([114,101,118,105,101,119,101,100]:List UInt8),([111,98,115,111,108,101,116,101]:List UInt8)]:List (List UInt8)) v=some (qY v) from(J2 v).2,Option.bind_some,Option.bind_some]
    refine⟨_,_,_,_,_,_,_,_,_,_,_,rfl,rfl,⟨h.c,h.f,h.d,?_,?_,h.g1,h.g1t,h.g1n,h.g2,h.g2t,h.g2n⟩,?_⟩
    ·rw[BW,if_neg (by decide)];exact h.o5
    ·rw[BW,if_pos rfl]
    ·rw[BW,if_neg (by decide)]
  ·have hp:qB 5 k v false=(0,[],[]):=by
    show (if 0≤qY v then((6:Int),([]:List UInt8),v) else(0,[],[]))=_
    rw[if_neg hst]
   refine .inl ⟨by rw[hp],(src,cm,qH fl,st,fd,hs,ht,3),?_,?_⟩
   ·unfold sM
    dsimp only
    rw[if_neg (show¬decide ((5:Int)=2)=true by decide),if_neg (show¬decide ((5:Int)=4)=true by decide),if_pos (show decide ((5:Int)=5)=true from rfl),QH,if_pos sX,zI,Bool.false_or,if_pos (show decide (qY v<0)=true by simp;omega)]
   ·rfl
include hv
theorem aIB:GR cm fl fd once fm dm hs ht src x1 x2 a1 a2 a3 st op op' 6 k v bad:=by
 have hfv:fit v:=by unfold fit;omega
 have hff:=h.f
 cases bad with
 |true=>exact .inl ⟨rfl,(src,cm,qH fl,st,fd,hs,ht,3),by unfold sM;dsimp only;rw[if_neg (show¬decide ((6:Int)=2)=true by decide),if_neg (show¬decide ((6:Int)=4)=true by decide),if_neg (show¬decide ((6:Int)=5)=true by decide),if_pos (show decide ((6:Int)=6)=true from rfl),if_pos (fun hh=>by cases hh)];rfl,rfl⟩
 |false=>
  cases hN:qI v with
  |true=>
   have hp:qB 6 k v false=(7,[],v):=by
    show (if qI v=true then((7:Int),([]:List UInt8),v) else(0,[],[]))=_
    rw[if_pos hN]
   refine .inr ⟨by rw[hp];rfl,?_⟩
   rw[hp]
   unfold sM rX
   dsimp only
   have hfl:fit (qH fl):=by unfold fit;rw[DC];omega
   rw[if_neg (show¬decide ((6:Int)=2)=true by decide),if_neg (show¬decide ((6:Int)=4)=true by decide),if_neg (show¬decide ((6:Int)=5)=true by decide),if_pos (show decide ((6:Int)=6)=true from rfl),J1 v hfv,if_pos sX,zI,hN,if_neg (show¬(false|| !true)=true by decide),aIw _ _ hfl,Option.bind_some,aBA,DC]
   rw[if_neg (show¬decide ((7:Int)=3)=true by decide),if_neg (show¬decide ((7:Int)=4)=true by decide),if_neg (show¬decide ((7:Int)=5)=true by decide)]
   unfold pW
   rw[Option.bind_some,if_neg (show¬decide ((7:Int)=6)=true by decide),if_pos (show decide ((7:Int)=7)=true from rfl),h.g1,h.g1n]
   by_cases ha:(fl.any fun y=>decide (y=v))=true
   ·rw[if_pos ha,if_pos ha]
    exact⟨_,_,_,_,_,_,_,_,_,_,_,rfl,rfl,h,rfl⟩
   ·rw[if_neg ha,if_neg ha]
    by_cases h20:fl.length=20
    ·rw[if_pos (by simp;omega),if_pos (by simp;omega)]
     exact⟨_,_,_,_,_,_,_,_,_,_,_,rfl,rfl,h,rfl⟩
    ·rw[if_neg (show¬decide ((fl.length:Int)=20)=true by simp;omega),if_pos (by simp only[List.length_cons,List.length_nil];omega),if_neg (show¬decide ((20:Int)≤(fl.length:Int))=true by simp;omega),aIx hfl,Option.bind_some,aBB]
     have hg:mget .str .bool fm v=false:=by rw[h.g1];exact RE ha
     have hadd:=aBW h.g1t hg
     refine⟨_,_,_,_,_,_,_,_,_,_,_,rfl,rfl,⟨h.c,by simp;omega,h.d,h.o5,h.o6,fun x=> ?_,hadd.1,by rw[hadd.2,h.g1n];simp,h.g2,h.g2t,h.g2n⟩,rfl⟩
     rw[z8,h.g1,List.any_append]
     by_cases hx:x=v
     ·rw[if_pos hx,hx];simp
     ·rw[if_neg hx]
      have:decide (v=x)=false:=decide_eq_false fun hh=>hx hh.symm
      simp [this]
  |false=>
   have hp:qB 6 k v false=(0,[],[]):=by
    show (if qI v=true then((7:Int),([]:List UInt8),v) else(0,[],[]))=_
    rw[if_neg (by rw[hN];exact Bool.false_ne_true)]
   refine .inl ⟨by rw[hp],(src,cm,qH fl,st,fd,hs,ht,3),?_,?_⟩
   ·unfold sM
    dsimp only
    rw[if_neg (show¬decide ((6:Int)=2)=true by decide),if_neg (show¬decide ((6:Int)=4)=true by decide),if_neg (show¬decide ((6:Int)=5)=true by decide),if_pos (show decide ((6:Int)=6)=true from rfl),J1 v hfv,if_pos sX,zI,hN,if_pos (show (false|| !false)=true by decide)]
   ·rfl
omit hv
include hk
theorem aBZ:GR cm fl fd once fm dm hs ht src x1 x2 a1 a2 a3 st op op' 7 k v bad:=by
 have hfk:fit k:=by unfold fit;omega
 have hfd:=h.d
 have hfit:fit fd:=by unfold fit;omega
 cases bad with
 |true=>exact .inl ⟨rfl,(src,cm,qH fl,st,fd,hs,ht,3),by unfold sM;dsimp only;rw[if_neg (show¬decide ((7:Int)=2)=true by decide),if_neg (show¬decide ((7:Int)=4)=true by decide),if_neg (show¬decide ((7:Int)=5)=true by decide),if_neg (show¬decide ((7:Int)=6)=true by decide),if_pos (show decide ((7:Int)=7)=true from rfl),if_pos (fun hh=>by cases hh)];rfl,rfl⟩
 |false=>
  cases hN:qI k with
  |true=>
   have hp:qB 7 k v false=(8,k,v):=by
    show (if qI k=true then((8:Int),k,v) else(0,[],[]))=_
    rw[if_pos hN]
   refine .inr ⟨by rw[hp];rfl,?_⟩
   rw[hp]
   unfold sM rX
   dsimp only
   rw[if_neg (show¬decide ((7:Int)=2)=true by decide),if_neg (show¬decide ((7:Int)=4)=true by decide),if_neg (show¬decide ((7:Int)=5)=true by decide),if_neg (show¬decide ((7:Int)=6)=true by decide),if_pos (show decide ((7:Int)=7)=true from rfl),J1 k hfk,if_pos sX,zI,hN,if_neg (show¬(false|| !true)=true by decide),aAK _ _ hfit,Option.bind_some,a3g]
   rw[if_neg (show¬decide ((8:Int)=3)=true by decide),if_neg (show¬decide ((8:Int)=4)=true by decide),if_neg (show¬decide ((8:Int)=5)=true by decide)]
   unfold pW
   rw[Option.bind_some,if_neg (show¬decide ((8:Int)=6)=true by decide),if_neg (show¬decide ((8:Int)=7)=true by decide),if_pos (show decide ((8:Int)=8)=true from rfl),h.g2,h.g2n]
   by_cases ha:(fd.any fun y=>decide (y.1=k))=true
   ·rw[if_pos ha,if_pos ha]
    exact⟨_,_,_,_,_,_,_,_,_,_,_,rfl,rfl,h,rfl⟩
   ·rw[if_neg ha,if_neg ha]
    by_cases h20:fd.length=20
    ·rw[if_pos (by simp;omega),if_pos (by simp;omega)]
     exact⟨_,_,_,_,_,_,_,_,_,_,_,rfl,rfl,h,rfl⟩
    ·rw[if_neg (by simp;omega),if_neg (by simp;omega),a3k _ _ _ hfit,a3j _ _ _ hfit,Option.bind_some,Option.bind_some]
     have hg:mget .str .bool dm k=false:=by rw[h.g2];exact RE ha
     have hadd:=aBW h.g2t hg
     have hset:=aIy (v:=v) (RE ha)
     refine⟨_,_,_,_,_,_,_,_,_,_,_,rfl,rfl,⟨h.c,h.f,by rw[hset.1];omega,h.o5,h.o6,h.g1,h.g1t,h.g1n,fun x=> ?_,hadd.1,by rw[hadd.2,h.g2n,hset.1]⟩,rfl⟩
     rw[z8,h.g2,hset.2 x]
     by_cases hx:x=k
     ·rw[if_pos hx,hx];simp
     ·rw[if_neg hx,decide_eq_false fun hh=>hx hh.symm,Bool.false_or]
  |false=>
   have hp:qB 7 k v false=(0,[],[]):=by
    show (if qI k=true then((8:Int),k,v) else(0,[],[]))=_
    rw[if_neg (by rw[hN];exact Bool.false_ne_true)]
   refine .inl ⟨by rw[hp],(src,cm,qH fl,st,fd,hs,ht,3),?_,?_⟩
   ·unfold sM
    dsimp only
    rw[if_neg (show¬decide ((7:Int)=2)=true by decide),if_neg (show¬decide ((7:Int)=4)=true by decide),if_neg (show¬decide ((7:Int)=5)=true by decide),if_neg (show¬decide ((7:Int)=6)=true by decide),if_pos (show decide ((7:Int)=7)=true from rfl),J1 k hfk,if_pos sX,zI,hN,if_pos (show (false|| !false)=true by decide)]
   ·rfl
end
end Go.Proofs.YtfchbnahjcdiiaaGreatDoor
namespace Go.Proofs.YtfchbnahjcdiiaaGreatDoor
open Vc
set_option maxRecDepth 100000
abbrev PS:=(List UInt8)×(List (List UInt8))×(List p8)×(List dT1)×Bool×(List Int)×(List (List UInt8))×(List UInt8)×(List UInt8)×(List UInt8)×(List (List UInt8))×Int×(List p8)×Int×(List ((List UInt8)×Bool))×(List (Int×Bool))×(List ((List UInt8)×Bool))×(List ((List UInt8)×Bool))×(List (List UInt8))
def xP (tag:List UInt8) (cms:List (List UInt8)) (fds:List Fld) (es:List dT1) (inside:Bool) (ends:List Int) (cm:List (List UInt8)) (src:List UInt8) (st:Int) (fd:List Fld) (op:Int) (ids:List (List UInt8×Bool)) (once:List (Int×Bool)) (fm dm:List (List UInt8×Bool)) (fl:List (List UInt8)):PS:=
  (tag,cms,fds,es,inside,ends,cm,[],src,[],[],st,fd,op,ids,once,fm,dm,fl)
abbrev RS:=(List Int)×Int×Int×(List UInt8)×(List (List UInt8))×(List p8)×(List dT1)×(List UInt8)×(List UInt8)×(List UInt8)×(List (List UInt8))×(List (List UInt8))×Int×(List p8)×Bool×Bool×Int
noncomputable def DE (it:Int×List UInt8) (b:PS):Option (Int×PS):=
 (zS it.2 ([10]:List UInt8)).bind fun r1=>
 (yA (Lib.trimLeftS r1 ([32,9]:List UInt8))).bind fun r=>
 if b.2.2.2.2.1=true then
  if i64 (it.1+(List.length it.2:Int)) then
   (rY (b.1,(b.2.1,(b.2.2.1,(b.2.2.2.1,())))) b.2.2.2.2.1 (b.2.2.2.2.2.1,()) (r.1,(r.2.1,(r.2.2,()))) it.1 (it.1+(List.length it.2:Int)) b.2.2.2.2.2.2.1 b.2.2.2.2.2.2.2.1 b.2.2.2.2.2.2.2.2.1 b.2.2.2.2.2.2.2.2.2.1 b.2.2.2.2.2.2.2.2.2.2.1 (b.2.2.2.2.2.2.2.2.2.2.2.1,(b.2.2.2.2.2.2.2.2.2.2.2.2.1,())) (b.2.2.2.2.2.2.2.2.2.2.2.2.2.1,()) b.2.2.2.2.2.2.2.2.2.2.2.2.2.2.1 b.2.2.2.2.2.2.2.2.2.2.2.2.2.2.2.1 b.2.2.2.2.2.2.2.2.2.2.2.2.2.2.2.2.1 b.2.2.2.2.2.2.2.2.2.2.2.2.2.2.2.2.2.1 b.2.2.2.2.2.2.2.2.2.2.2.2.2.2.2.2.2.2).bind fun r=>
   some ((r.1,b.1,b.2.1,b.2.2.1,r.2.1,b.2.2.2.2.1,r.2.2.1,r.2.2.2.2.1,r.2.2.2.2.2.1,r.2.2.2.2.2.2.1,r.2.2.2.2.2.2.2.1,r.2.2.2.2.2.2.2.2.1,r.2.2.2.2.2.2.2.2.2.1,r.2.2.2.2.2.2.2.2.2.2.1,r.2.2.2.2.2.2.2.2.2.2.2.1,r.2.2.2.1,r.2.2.2.2.2.2.2.2.2.2.2.2.1,r.2.2.2.2.2.2.2.2.2.2.2.2.2.1,r.2.2.2.2.2.2.2.2.2.2.2.2.2.2.1,r.2.2.2.2.2.2.2.2.2.2.2.2.2.2.2))
  else none
 else
  if i64 (it.1+(List.length it.2:Int)) then
   (rI (b.1,(b.2.1,(b.2.2.1,(b.2.2.2.1,())))) b.2.2.2.2.1 (b.2.2.2.2.2.1,()) (r.1,(r.2.1,(r.2.2,()))) (it.1+(List.length it.2:Int)) b.2.2.2.2.2.2.1 b.2.2.2.2.2.2.2.1 b.2.2.2.2.2.2.2.2.1 b.2.2.2.2.2.2.2.2.2.1 b.2.2.2.2.2.2.2.2.2.2.1 (b.2.2.2.2.2.2.2.2.2.2.2.1,(b.2.2.2.2.2.2.2.2.2.2.2.2.1,())) (b.2.2.2.2.2.2.2.2.2.2.2.2.2.1,()) b.2.2.2.2.2.2.2.2.2.2.2.2.2.2.1 b.2.2.2.2.2.2.2.2.2.2.2.2.2.2.2.1 b.2.2.2.2.2.2.2.2.2.2.2.2.2.2.2.2.1 b.2.2.2.2.2.2.2.2.2.2.2.2.2.2.2.2.2.1 b.2.2.2.2.2.2.2.2.2.2.2.2.2.2.2.2.2.2).bind fun r=>
   some ((r.1,r.2.1,r.2.2.1,r.2.2.2.1,b.2.2.2.1,r.2.2.2.2.1,r.2.2.2.2.2.1,r.2.2.2.2.2.2.1,r.2.2.2.2.2.2.2.1,r.2.2.2.2.2.2.2.2.1,r.2.2.2.2.2.2.2.2.2.1,r.2.2.2.2.2.2.2.2.2.2.1,r.2.2.2.2.2.2.2.2.2.2.2.1,r.2.2.2.2.2.2.2.2.2.2.2.2.1,r.2.2.2.2.2.2.2.2.2.2.2.2.2.1,b.2.2.2.2.2.2.2.2.2.2.2.2.2.2.1,r.2.2.2.2.2.2.2.2.2.2.2.2.2.2.1,r.2.2.2.2.2.2.2.2.2.2.2.2.2.2.2.1,r.2.2.2.2.2.2.2.2.2.2.2.2.2.2.2.2.1,r.2.2.2.2.2.2.2.2.2.2.2.2.2.2.2.2.2))
  else none
theorem aB0 (it:Int×List UInt8) (b:PS):EU it b=(DE it b).bind fun q=>if (!decide (q.1=(0:Int)))=true then none else some (.inl q.2):=by
  unfold EU DE pW
  obtain⟨b1,b2,b3,b4,b5,b6,b7,b8,b9,b10,b11,b12,b13,b14,qJ,b16,b17,b18,b19⟩:=b
  dsimp only
  cases zS it.2 [10] with
  |none=>rfl
  | some r1=>
    rw[Option.bind_some,Option.bind_some]
    cases yA (Lib.trimLeftS r1 [32,9]) with
    |none=>rfl
    |some r=>rfl
theorem aB1 (it:Int×List UInt8) (b:PS):EV it b=(DE it b).bind fun q=>if (!decide (q.1=(0:Int)))=true then some (.inr (it.1,q.1)) else some (.inl q.2):=by
  unfold EV DE pW
  obtain⟨b1,b2,b3,b4,b5,b6,b7,b8,b9,b10,b11,b12,b13,b14,qJ,b16,b17,b18,b19⟩:=b
  dsimp only
  cases zS it.2 [10] with
  |none=>rfl
  | some r1=>
    rw[Option.bind_some,Option.bind_some]
    cases yA (Lib.trimLeftS r1 [32,9]) with
    |none=>rfl
    |some r=>rfl
noncomputable def yE (b:RS) (r:Int×List UInt8×List UInt8×Bool):Option (Int×Bool×(List UInt8)×(List (List UInt8))×(List p8)×(List dT1)×(List UInt8)×(List UInt8)×(List UInt8)×(List (List UInt8))×(List (List UInt8))×Int×(List p8)×Bool×Bool×Int):=
  match b with
  |(O,Z,_,aA,aB,aC,aD,aE,aF,aG,aH,aI,aJ,aK,aL,aM,aN)=>
       if (decide ((List.length O:Int)=(0:Int)))=true then
        (sP (aA,(aB,(aC,(aD,())))) ((aE,(aF,(aG,(aH,(aI,(aJ,(aK,()))))))),(aL,(aM,(aN,())))) (r.1,(r.2.1,(r.2.2.1,(r.2.2.2,()))))).bind fun aO=>
        some ((aO.2.2.2.2.2.2.2.2.2.2.2.2.2.2,aO.2.2.2.2.2.2.2.2.2.2.2.2.2.1,aO.1,aO.2.1,aO.2.2.1,aD,aO.2.2.2.1,aO.2.2.2.2.1,aO.2.2.2.2.2.1,aO.2.2.2.2.2.2.1,aO.2.2.2.2.2.2.2.1,aO.2.2.2.2.2.2.2.2.1,aO.2.2.2.2.2.2.2.2.2.1,aO.2.2.2.2.2.2.2.2.2.2.1,aO.2.2.2.2.2.2.2.2.2.2.2.1,aO.2.2.2.2.2.2.2.2.2.2.2.2.1))
       else
        if (decide (r.1=(9:Int)))=true then
         (D0 (aA,(aB,(aC,(aD,())))) ((aE,(aF,(aG,(aH,(aI,(aJ,(aK,()))))))),(aL,(aM,(aN,())))) (r.1,(r.2.1,(r.2.2.1,(r.2.2.2,()))))).bind fun aP=>
         some ((aP.2,true,aA,aB,aC,aP.1,([]:List UInt8),([]:List UInt8),([]:List UInt8),([]:List (List UInt8)),([]:List (List UInt8)),(0:Int),([]:List p8),false,false,(-1:Int)))
        else
         if (((decide ((2:Int)≤r.1))&&(decide (r.1≤(7:Int))))&&(!decide (r.1=(3:Int))))=true then
          (sM ((aE,(aF,(aG,(aH,(aI,(aJ,(aK,()))))))),(aL,(aM,(aN,())))) (r.1,(r.2.1,(r.2.2.1,(r.2.2.2,()))))).bind fun aQ=>
          if (decide (aN<(0:Int)))=true then
           some ((aQ.2.2.2.2.2.2.2,false,aA,aB,aC,aD,aE,aQ.1,aG,aQ.2.1,aQ.2.2.1,aQ.2.2.2.1,aQ.2.2.2.2.1,aQ.2.2.2.2.2.1,aQ.2.2.2.2.2.2.1,Z))
          else
           some ((aQ.2.2.2.2.2.2.2,false,aA,aB,aC,aD,aE,aQ.1,aG,aQ.2.1,aQ.2.2.1,aQ.2.2.2.1,aQ.2.2.2.2.1,aQ.2.2.2.2.2.1,aQ.2.2.2.2.2.2.1,aN))
         else
          if (decide ((1:Int)<r.1))=true then
           some (((3:Int),false,aA,aB,aC,aD,aE,aF,aG,aH,aI,aJ,aK,aL,aM,aN))
          else
           some (((0:Int),false,aA,aB,aC,aD,aE,aF,aG,aH,aI,aJ,aK,aL,aM,aN))
theorem aIC {ls:List (List UInt8)}{b:RS}{i:Nat}(hi:b.2.2.1=(i:Int)) (hlt:i<ls.length) (h1:i≤1000000) (h2:i64 (b.2.1+(List.length ls[i]:Int))):y8 ls b=(zU ls[i]).bind fun q=>(yE b q).bind fun r=>
     if (!decide (r.1=(0:Int)))=true then
      some (.inr (.inr ((([]:List UInt8),([]:List (List UInt8)),([]:List p8),([]:List dT1),([]:List Int),b.2.1,r.1))))
     else
      if r.2.1=true then
       if (List.length b.1+1)*8≤140737488355328 then
         some (.inl ((b.1++([(b.2.1+(List.length ls[i]:Int))]:List Int)),(b.2.1+(List.length ls[i]:Int)),((i:Int)+1),r.2.2))
       else none
      else
        some (.inl (b.1,(b.2.1+(List.length ls[i]:Int)),((i:Int)+1),r.2.2)):=by
  obtain⟨b1,b2,b3,b4,b5,b6,b7,b8,b9,b10,b11,b12,b13,b14,qJ,b16,b17⟩:=b
  dsimp only at hi h2
  subst hi
  unfold y8 pW
  dsimp only
  rw[if_pos (sI hlt),if_pos (qD hlt),wD (t:= .str) hlt]
  cases zU ls[i] with
  |none=>rfl
  | some q=>
    rw[Option.bind_some,Option.bind_some,if_pos (qD hlt),if_pos h2]
    unfold yE
    dsimp only
    refine congrArg (Option.bind _) (funext fun r=> ?_)
    obtain⟨r1,r2,r3,r4,r5,r6,r7,r8,r9,r10,r11,r12,r13,r14,r15,r16⟩:=r
    dsimp only
    rw[if_pos (qV h1),if_pos (qV h1)]
    rfl
structure SI (tag:List UInt8) (cms:List (List UInt8)) (fds:List Fld) (es:List dT1) (ends:List Int) (cm:List (List UInt8)) (fl:List (List UInt8)) (fd:List Fld) (ids:List (List UInt8×Bool)) (once:List (Int×Bool)) (fm dm:List (List UInt8×Bool)) (hs ht:Bool):Prop where
  b:BI cm fl fd once fm dm hs ht
  tg:ends=[]→mget (.int .i64) .bool once 4= !decide (tag=[])
  id:IdsOk ids es
  en:es.length≤1000
  ef: ∀y∈es,EntFit y
  cf:fit cms
  ff:fit fds
section
variable {cm:List (List UInt8)}{fl:List (List UInt8)}{fd:List Fld}{once:List (Int×Bool)}{fm dm:List (List UInt8×Bool)}{src a1 a2 q1 q2:List UInt8}{a3:List (List UInt8)}{st op:Int}
theorem aB2 {pf:Int}(h:pf=1∨pf=2):rX cm a1 src a2 a3 (st,(fd,())) (op,()) (pf,(q1,(q2,()))) once fm dm fl=some (0,cm,src,st,fd,once,fm,dm,fl):=by
  unfold rX
  rcases h with rfl|rfl<;>simp only[pW,Option.bind_some,decide_eq_true_eq,Int.reduceEq,↓reduceIte]
theorem aID:rX cm a1 src a2 a3 (st,(fd,())) (op,()) (4,(q1,(q2,()))) once fm dm fl=some (if mget (.int .i64) .bool once 4=true then(9,cm,src,st,fd,once,fm,dm,fl) else(0,cm,src,st,fd,qK (.int .i64) .bool 4 true once,fm,dm,fl)):=by
  unfold rX
  simp only[pW,Option.bind_some,decide_eq_true_eq,Int.reduceEq,↓reduceIte]
  by_cases h:mget (.int .i64) .bool once 4=true
  ·rw[if_pos h,if_pos h]
  ·rw[if_neg h,if_neg h]
end
theorem aIE {v:List UInt8}(h:yB v=true):v≠[]:=by
  rintro rfl
  exact absurd h (by decide)
section
variable {tag:List UInt8}{cms:List (List UInt8)}{fds:List Fld}{es:List dT1}{cm:List (List UInt8)}{fl:List (List UInt8)}{fd:List Fld}{ids:List (List UInt8×Bool)}{once:List (Int×Bool)}{fm dm:List (List UInt8×Bool)}{hs ht:Bool}
variable {src:List UInt8}{st op tz:Int}{f:Int}{k v:List UInt8}{bad:Bool}
abbrev RP:=Int×(List UInt8)×(List (List UInt8))×(List p8)×Bool×(List Int)×(List (List UInt8))×(List UInt8)×(List UInt8)×(List UInt8)×(List (List UInt8))×Int×(List p8)×Int×(List (Int×Bool))×(List ((List UInt8)×Bool))×(List ((List UInt8)×Bool))×(List (List UInt8))
abbrev RR:=(List UInt8)×(List (List UInt8))×(List p8)×(List UInt8)×(List UInt8)×(List UInt8)×(List (List UInt8))×(List (List UInt8))×Int×(List p8)×Bool×Bool×Int×Bool×Int
def aIF (es:List dT1) (ids:List (List UInt8×Bool)) (tz:Int) (rp:RP) (rr:RR):Prop:=
  ∃ tag' cms' fds' cm' src' st' fd' op' once' fm' dm' fl' hs' ht' dn,rp=(0,tag',cms',fds',dn,(if dn=true then[tz] else[]),cm',[],src',[],[],st',fd',op',once',fm',dm',fl')∧
    rr=(tag',cms',fds',[],src',[],cm',qH fl',st',fd',hs',ht',op',dn,0)∧SI tag' cms' fds' es (if dn=true then[tz] else[]) cm' fl' fd' ids once' fm' dm' hs' ht'
def DF (tag:List UInt8) (cms:List (List UInt8)) (fds:List Fld) (es:List dT1) (cm:List (List UInt8)) (fl:List (List UInt8)) (fd:List Fld) (ids:List (List UInt8×Bool)) (once:List (Int×Bool)) (fm dm:List (List UInt8×Bool)) (hs ht:Bool) (src:List UInt8) (st op tz f:Int) (k v:List UInt8) (bad:Bool):Prop:=
  ∃ rp rr,rI (tag,(cms,(fds,(es,())))) false ([],()) ((qB f k v bad).1,((qB f k v bad).2.1,((qB f k v bad).2.2,()))) tz cm [] src [] [] (st,(fd,())) (op,()) ids once fm dm fl=some rp∧
    sP (tag,(cms,(fds,(es,())))) (([],(src,([],(cm,(qH fl,(st,(fd,()))))))),(hs,(ht,(op,())))) (f,(k,(v,(bad,()))))=some rr∧
    ((rp.1≠0∧rr.2.2.2.2.2.2.2.2.2.2.2.2.2.2=rp.1)∨aIF es ids tz rp rr)
variable (h:SI tag cms fds es [] cm fl fd ids once fm dm hs ht)
include h
theorem GS (hp:(qB f k v bad).1=0∨(qB f k v bad).1=5∨(qB f k v bad).1=6∨(qB f k v bad).1=7∨(qB f k v bad).1=10) (hr: ∃rr,sP (tag,(cms,(fds,(es,())))) (([],(src,([],(cm,(qH fl,(st,(fd,()))))))),(hs,(ht,(op,())))) (f,(k,(v,(bad,()))))=some rr∧rr.2.2.2.2.2.2.2.2.2.2.2.2.2.2=3):DF tag cms fds es cm fl fd ids once fm dm hs ht src st op tz f k v bad:=by
  obtain⟨rr,h1,h2⟩:=hr
  refine⟨(3,tag,cms,fds,false,[],cm,[],src,[],[],st,fd,op,once,fm,dm,fl),rr,?_,h1,.inl ⟨?_,?_⟩⟩
  · unfold rI
    generalize (qB f k v bad).1=pf at hp
    rcases hp with rfl|rfl|rfl|rfl|rfl<;>simp only[pW,Option.bind_some,decide_eq_true_eq,Int.reduceEq,↓reduceIte]
  · show (3:Int)≠0
    decide
  ·exact h2
theorem aB3 (hf:f=0∨f=1):DF tag cms fds es cm fl fd ids once fm dm hs ht src st op tz f k v bad:=by
  unfold DF rI sP
  have h1: ∀{q1 q2:List UInt8},rX cm [] src [] [] (st,(fd,())) (op,()) (1,(q1,(q2,()))) once fm dm fl=some (0,cm,src,st,fd,once,fm,dm,fl):=aB2 (.inl rfl)
  have h2: ∀{q1 q2:List UInt8},rX cm [] src [] [] (st,(fd,())) (op,()) (2,(q1,(q2,()))) once fm dm fl=some (0,cm,src,st,fd,once,fm,dm,fl):=aB2 (.inr rfl)
  rcases hf with rfl|rfl
  · rw[show qB 0 k v bad=(1,[],[]) from rfl]
    simp only[pW,Option.bind_some,decide_eq_true_eq,Int.reduceEq,↓reduceIte,h1]
    exact⟨_,_,rfl,rfl,.inr ⟨tag,cms,fds,cm,src,st,fd,op,once,fm,dm,fl,hs,ht,false,rfl,rfl,h⟩⟩
  · rw[show qB 1 k v bad=(2,[],[]) from rfl]
    simp only[pW,Option.bind_some,decide_eq_true_eq,Int.reduceEq,↓reduceIte,h2]
    exact⟨_,_,rfl,rfl,.inr ⟨tag,cms,fds,cm,src,st,fd,op,once,fm,dm,fl,hs,ht,false,rfl,rfl,h⟩⟩
theorem aB4 (hf:f=2∨f=7) (hk:k.length≤20000):DF tag cms fds es cm fl fd ids once fm dm hs ht src st op tz f k v bad:=by
  have hA:GR cm fl fd once fm dm hs ht src [] [] [] [] [] st op op f k v bad:=by
    rcases hf with rfl|rfl
    ·exact aBY h.b
    ·exact aBZ h.b hk
  have hr: ∀r,sM (([],(src,([],(cm,(qH fl,(st,(fd,()))))))),(hs,(ht,(op,())))) (f,(k,(v,(bad,()))))=some r→sP (tag,(cms,(fds,(es,())))) (([],(src,([],(cm,(qH fl,(st,(fd,()))))))),(hs,(ht,(op,())))) (f,(k,(v,(bad,()))))=some (tag,cms,fds,[],r.1,[],r.2.1,r.2.2.1,r.2.2.2.1,r.2.2.2.2.1,r.2.2.2.2.2.1,r.2.2.2.2.2.2.1,op,false,r.2.2.2.2.2.2.2):=by
    intro r hr
    unfold sP
    rcases hf with rfl|rfl<;>simp only[pW,Option.bind_some,decide_eq_true_eq,Int.reduceEq,↓reduceIte,hr]
  rcases hA with⟨h0,r,h1,h2⟩ |⟨hp,e,cm',src',st',fd',once',fm',dm',fl',hs',ht',h1,h2,h3,h4⟩
  ·exact GS h (.inl h0) ⟨_,hr r h1,h2⟩
  · refine⟨(e,tag,cms,fds,false,[],cm',[],src',[],[],st',fd',op,once',fm',dm',fl'),_,?_,hr _ h2,?_⟩
    · unfold rI
      dsimp only
      rw[h1]
      rcases hf with rfl|rfl<;>rw[hp]<;>simp only[pW,Option.bind_some,decide_eq_true_eq,Int.reduceEq,Int.reduceAdd,↓reduceIte]
    · by_cases he:e=0
      · subst he
        exact .inr ⟨tag,cms,fds,cm',src',st',fd',op,once',fm',dm',fl',hs',ht',false,rfl,rfl,⟨h3,fun _=>by rw[h4];exact h.tg rfl,h.id,h.en,h.ef,h.cf,h.ff⟩⟩
      ·exact .inl ⟨he,rfl⟩
theorem aIG (hv:v.length≤20000):DF tag cms fds es cm fl fd ids once fm dm hs ht src st op tz 3 k v bad:=by
  have hfv:fit v:=by unfold fit;omega
  by_cases hb:bad=true∨yB v=false
  · refine GS h (.inl ?_) ?_
    · rcases hb with rfl|hb
      ·rfl
      · cases bad with
        |true=>rfl
        | false=>
          show (if yB v=true then((4:Int),([]:List UInt8),v) else(0,[],[])).1=0
          rw[if_neg (by rw[hb];exact Bool.false_ne_true)]
    · unfold sP
      simp only[pW,Option.bind_some,decide_eq_true_eq,Int.reduceEq,↓reduceIte]
      rw[aAG v hfv,if_pos sX,zI,if_pos (by rcases hb with rfl|hb;rfl;rw[hb];simp)]
      exact⟨_,rfl,rfl⟩
  · have hb1:bad=false:=by cases bad;rfl;exact absurd (.inl rfl) hb
    have hb2:yB v=true:=by cases ht2:yB v;exact absurd (.inr ht2) hb;rfl
    subst hb1
    have hp:qB 3 k v false=(4,[],v):=by
      show (if yB v=true then((4:Int),([]:List UInt8),v) else(0,[],[]))=_
      rw[if_pos hb2]
    have htg:=h.tg rfl
    have hat: ∀{q1 q2:List UInt8},rX cm [] src [] [] (st,(fd,())) (op,()) (4,(q1,(q2,()))) once fm dm fl=_:=aID
    unfold DF rI sP
    rw[hp]
    simp only[pW,Option.bind_some,decide_eq_true_eq,Int.reduceEq,↓reduceIte,hat]
    rw[aAG v hfv,if_pos sX,zI,if_neg (show¬(false|| !yB v)=true by rw[hb2];decide),htg]
    by_cases ht0:tag=[]
    · rw[decide_eq_true ht0]
      simp only[Bool.not_true,Bool.not_false,Bool.false_eq_true,↓reduceIte,Option.bind_some]
      refine⟨_,_,rfl,rfl,.inr ⟨v,cms,fds,cm,src,st,fd,op,_,fm,dm,fl,hs,ht,false,rfl,rfl,⟨⟨h.b.c,h.b.f,h.b.d,?_,?_,h.b.g1,h.b.g1t,h.b.g1n,h.b.g2,h.b.g2t,h.b.g2n⟩,fun _=> ?_,h.id,h.en,h.ef,h.cf,h.ff⟩⟩⟩
      ·rw[BW,if_neg (by decide)];exact h.b.o5
      ·rw[BW,if_neg (by decide)];exact h.b.o6
      · rw[BW,if_pos rfl,decide_eq_false (aIE hb2)]
        rfl
    · rw[decide_eq_false ht0]
      simp only[Bool.not_true,Bool.not_false,Bool.false_eq_true,↓reduceIte,Option.bind_some]
      exact⟨_,_,rfl,rfl,.inl ⟨(show (9:Int)≠0 by decide),rfl⟩⟩
theorem aIH:DF tag cms fds es cm fl fd ids once fm dm hs ht src st op tz 8 k v bad:=by
  have htg:=h.tg rfl
  unfold DF rI sP
  rw[show qB 8 k v bad=(9,[],[]) from rfl]
  simp only[pW,Option.bind_some,decide_eq_true_eq,Int.reduceEq,↓reduceIte]
  rw[htg]
  by_cases ht0:tag=[]
  · rw[decide_eq_true ht0,if_pos ht0]
    exact⟨_,_,rfl,rfl,.inl ⟨(show (3:Int)≠0 by decide),rfl⟩⟩
  · rw[decide_eq_false ht0,if_neg ht0]
    simp only[Bool.not_false,Bool.not_true,Bool.false_eq_true,↓reduceIte,List.length_nil,List.length_cons,List.nil_append]
    have hc:=h.b.c
    have hd:=h.b.d
    exact⟨_,_,rfl,rfl,.inr ⟨tag,cm,fd,[],[],0,[],-1,[],[],[],[],false,false,true,rfl,by rw[show qH []=[] from List.length_eq_zero_iff.1 (DC [])],⟨a3Z,fun hh=>(by cases hh),h.id,h.en,h.ef,by unfold fit;omega,by unfold fit;omega⟩⟩⟩
theorem aII (hf0:0≤f) (hf:f≤10) (hk:k.length≤20000) (hv:v.length≤20000):DF tag cms fds es cm fl fd ids once fm dm hs ht src st op tz f k v bad:=by
  have:f=0∨f=1∨f=2∨f=3∨f=4∨f=5∨f=6∨f=7∨f=8∨f=9∨f=10:=by omega
  have hr:(f=4∨f=5∨f=6∨f=9∨f=10)→∃rr,sP (tag,(cms,(fds,(es,())))) (([],(src,([],(cm,(qH fl,(st,(fd,()))))))),(hs,(ht,(op,())))) (f,(k,(v,(bad,()))))=some rr∧rr.2.2.2.2.2.2.2.2.2.2.2.2.2.2=3:=by
    intro hh
    unfold sP
    rcases hh with rfl|rfl|rfl|rfl|rfl<;>simp only[pW,Option.bind_some,decide_eq_true_eq,Int.reduceEq,↓reduceIte]<;>exact⟨_,rfl,rfl⟩
  rcases this with rfl|rfl|rfl|rfl|rfl|rfl|rfl|rfl|rfl|rfl|rfl
  ·exact aB3 h (.inl rfl)
  ·exact aB3 h (.inr rfl)
  ·exact aB4 h (.inl rfl) hk
  ·exact aIG h hv
  · refine GS h ?_ (hr (.inl rfl))
    cases bad
    ·exact .inr (.inl rfl)
    ·exact .inl rfl
  · refine GS h ?_ (hr (.inr (.inl rfl)))
    cases bad
    · rw[show qB 5 k v false=(if 0≤qY v then((6:Int),([]:List UInt8),v) else(0,[],[])) from rfl]
      split
      ·exact .inr (.inr (.inl rfl))
      ·exact .inl rfl
    ·exact .inl rfl
  · refine GS h ?_ (hr (.inr (.inr (.inl rfl))))
    cases bad
    · rw[show qB 6 k v false=(if qI v=true then((7:Int),([]:List UInt8),v) else(0,[],[])) from rfl]
      split
      ·exact .inr (.inr (.inr (.inl rfl)))
      ·exact .inl rfl
    ·exact .inl rfl
  ·exact aB4 h (.inr rfl) hk
  ·exact aIH h
  · refine GS h ?_ (hr (.inr (.inr (.inr (.inl rfl)))))
    cases bad
    · rw[aBS]
      split
      ·exact .inl rfl
      ·exact .inr (.inr (.inr (.inr rfl)))
    ·exact .inl rfl
  ·exact GS h (.inl (by rw[JE])) (hr (.inr (.inr (.inr (.inr rfl)))))
end
end Go.Proofs.YtfchbnahjcdiiaaGreatDoor
namespace Go.Proofs.YtfchbnahjcdiiaaGreatDoor
open Vc
set_option maxRecDepth 100000
section
variable {tag:List UInt8}{cms:List (List UInt8)}{fds:List Fld}{es:List dT1}{ends:List Int}{cm:List (List UInt8)}{fl:List (List UInt8)}{fd:List Fld}{ids:List (List UInt8×Bool)}{once:List (Int×Bool)}{fm dm:List (List UInt8×Bool)}{hs ht:Bool}
variable {src:List UInt8}{st op at0 idx tz:Int}{f:Int}{k v:List UInt8}{bad:Bool}
abbrev EP:=Int×(List dT1)×(List Int)×(List ((List UInt8)×Bool))×(List (List UInt8))×(List UInt8)×(List UInt8)×(List UInt8)×(List (List UInt8))×Int×(List p8)×Int×(List (Int×Bool))×(List ((List UInt8)×Bool))×(List ((List UInt8)×Bool))×(List (List UInt8))
abbrev ER:=Int×Bool×(List UInt8)×(List (List UInt8))×(List p8)×(List dT1)×(List UInt8)×(List UInt8)×(List UInt8)×(List (List UInt8))×(List (List UInt8))×Int×(List p8)×Bool×Bool×Int
def aIJ (tag:List UInt8) (cms:List (List UInt8)) (fds:List Fld) (ends:List Int) (tz:Int) (rp:EP) (rr:ER):Prop:=
 ∃es' ids' cm' src' st' fd' op' once' fm' dm' fl' hs' ht' dn,rp=(0,es',ends++(if dn=true then[tz] else[]),ids',cm',[],src',[],[],st',fd',op',once',fm',dm',fl')∧
  rr=(0,dn,tag,cms,fds,es',[],src',[],cm',qH fl',st',fd',hs',ht',op')∧SI tag cms fds es' (ends++(if dn=true then[tz] else[])) cm' fl' fd' ids' once' fm' dm' hs' ht'
def GT (tag:List UInt8) (cms:List (List UInt8)) (fds:List Fld) (es:List dT1) (ends:List Int) (cm:List (List UInt8)) (fl:List (List UInt8)) (fd:List Fld) (ids:List (List UInt8×Bool)) (once:List (Int×Bool)) (fm dm:List (List UInt8×Bool)) (hs ht:Bool) (src:List UInt8) (st op at0 idx tz f:Int) (k v:List UInt8) (bad:Bool):Prop:=
 ∃rp rr,rY (tag,(cms,(fds,(es,())))) true (ends,()) ((qB f k v bad).1,((qB f k v bad).2.1,((qB f k v bad).2.2,()))) at0 tz cm [] src [] [] (st,(fd,())) (op,()) ids once fm dm fl=some rp∧
  yE (ends,at0,idx,tag,cms,fds,es,[],src,[],cm,qH fl,st,fd,hs,ht,op) (f,k,v,bad)=some rr∧((rp.1≠0∧rr.1=rp.1)∨aIJ tag cms fds ends tz rp rr)
variable (h:SI tag cms fds es ends cm fl fd ids once fm dm hs ht) (hne:ends≠[])
include h hne
theorem MJ (hp:(qB f k v bad).1=0∨(qB f k v bad).1=4∨(qB f k v bad).1=9) (hr: ∃rr,yE (ends,at0,idx,tag,cms,fds,es,[],src,[],cm,qH fl,st,fd,hs,ht,op) (f,k,v,bad)=some rr∧rr.1=3):GT tag cms fds es ends cm fl fd ids once fm dm hs ht src st op at0 idx tz f k v bad:=by
 obtain⟨rr,h1,h2⟩:=hr
 refine⟨(3,es,ends,ids,cm,[],src,[],[],st,fd,op,once,fm,dm,fl),rr,?_,h1,.inl ⟨?_,?_⟩⟩
 ·unfold rY
  generalize (qB f k v bad).1=pf at hp
  rcases hp with rfl|rfl|rfl<;>simp only[pW,Option.bind_some,decide_eq_true_eq,Int.reduceEq,↓reduceIte]
 ·show (3:Int)≠0
  decide
 ·exact h2
omit h in
theorem GU: ¬decide ((List.length ends:Int)=0)=true:=by
 have:ends.length≠0:=fun hh=>hne (List.length_eq_zero_iff.1 hh)
 simp only[decide_eq_true_eq]
 omega
theorem aB5 (hf:f=0∨f=1):GT tag cms fds es ends cm fl fd ids once fm dm hs ht src st op at0 idx tz f k v bad:=by
 unfold GT rY yE
 rcases hf with rfl|rfl
 ·rw[show qB 0 k v bad=(1,[],[]) from rfl]
  dsimp only
  rw[if_neg (GU hne)]
  simp only[pW,Option.bind_some,decide_eq_true_eq,Int.reduceEq,↓reduceIte]
  exact⟨_,_,rfl,rfl,.inr ⟨es,ids,cm,src,st,fd,op,once,fm,dm,fl,hs,ht,false,by simp,rfl,by simpa using h⟩⟩
 ·rw[show qB 1 k v bad=(2,[],[]) from rfl]
  dsimp only
  rw[if_neg (GU hne)]
  simp only[pW,Option.bind_some,decide_eq_true_eq,Int.reduceEq,↓reduceIte]
  exact⟨_,_,rfl,rfl,.inr ⟨es,ids,cm,src,st,fd,op,once,fm,dm,fl,hs,ht,false,by simp,rfl,by simpa using h⟩⟩
theorem MK (hf:f=2∨f=4∨f=5∨f=6∨f=7) (hk:k.length≤20000) (hv:v.length≤20000):GT tag cms fds es ends cm fl fd ids once fm dm hs ht src st op at0 idx tz f k v bad:=by
 have hA: ∀op1,GR cm fl fd once fm dm hs ht src [] [] [] [] [] st op1 op f k v bad:=by
  intro op1
  rcases hf with rfl|rfl|rfl|rfl|rfl
  ·exact aBY h.b
  ·exact aIz h.b
  ·exact aIA h.b
  ·exact aIB h.b hv
  ·exact aBZ h.b hk
 have hr: ∀r,sM (([],(src,([],(cm,(qH fl,(st,(fd,()))))))),(hs,(ht,(op,())))) (f,(k,(v,(bad,()))))=some r→yE (ends,at0,idx,tag,cms,fds,es,[],src,[],cm,qH fl,st,fd,hs,ht,op) (f,k,v,bad)=some (r.2.2.2.2.2.2.2,false,tag,cms,fds,es,[],r.1,[],r.2.1,r.2.2.1,r.2.2.2.1,r.2.2.2.2.1,r.2.2.2.2.2.1,r.2.2.2.2.2.2.1,if op<0 then at0 else op):=by
  intro r hr
  unfold yE
  dsimp only
  rw[if_neg (GU hne),if_neg (by rcases hf with rfl|rfl|rfl|rfl|rfl<;>simp),if_pos (by rcases hf with rfl|rfl|rfl|rfl|rfl<;>simp),hr,Option.bind_some]
  by_cases ho:op<0
  ·rw[if_pos (by simpa using ho),if_pos ho]
  ·rw[if_neg (by simpa using ho),if_neg ho]
 rcases hA (if op<0 then at0 else op) with⟨h0,r,h1,h2⟩ |⟨hp,e,cm',src',st',fd',once',fm',dm',fl',hs',ht',h1,h2,h3,h4⟩
 ·exact MJ h hne (.inl h0) ⟨_,hr r h1,h2⟩
 ·refine⟨(e,es,ends,ids,cm',[],src',[],[],st',fd',(if op<0 then at0 else op),once',fm',dm',fl'),_,?_,hr _ h2,?_⟩
  ·have hpf: ¬((qB f k v bad).1=0∨(qB f k v bad).1=4∨(qB f k v bad).1=9)∧¬((qB f k v bad).1=1∨(qB f k v bad).1=2)∧¬(qB f k v bad).1=10:=by
    rw[hp];rcases hf with rfl|rfl|rfl|rfl|rfl<;>decide
   unfold rY
   dsimp only
   generalize (qB f k v bad).1=pf at hpf h1
   obtain⟨n1,n2,n3⟩:=hpf
   simp only[not_or] at n1 n2
   simp only[pW,Option.bind_some,decide_eq_true_eq,n1.1,n1.2.1,n1.2.2,n2.1,n2.2,n3,↓reduceIte]
   by_cases ho:op<0
   ·rw[if_pos ho] at h1⊢
    rw[if_pos ho,h1]
    rfl
   ·rw[if_neg ho] at h1⊢
    rw[if_neg ho,h1]
    rfl
  ·by_cases he:e=0
   ·subst he
    exact .inr ⟨es,ids,cm',src',st',fd',_,once',fm',dm',fl',hs',ht',false,by simp,rfl,⟨h3,fun hh=>absurd (by simpa using hh) hne,h.id,h.en,h.ef,h.cf,h.ff⟩⟩
   ·exact .inl ⟨he,rfl⟩
theorem aIK (hk:k.length≤20000) (hen:ends.length≤10000):GT tag cms fds es ends cm fl fd ids once fm dm hs ht src st op at0 idx tz 9 k v bad:=by
 by_cases hb:bad=true∨k=[]∨200<k.length
 ·refine MJ h hne (.inl ?_) ?_
  ·rcases hb with rfl|hb
   ·rfl
   ·cases bad with
    |true=>rfl
    |false=>
     show (if k=[]∨200<k.length then((0:Int),([]:List UInt8),([]:List UInt8)) else(10,k,v)).1=0
     rw[if_pos hb]
  ·unfold yE D0
   dsimp only
   rw[if_neg (GU hne),if_pos (show decide ((9:Int)=9)=true from rfl),if_pos (by
    rcases hb with rfl|rfl|hb
    ·rfl
    ·simp
    ·simp;exact .inr (by omega))]
   exact⟨_,rfl,rfl⟩
 ·simp only[not_or] at hb
  have hb1:bad=false:=by cases bad;rfl;exact absurd rfl hb.1
  subst hb1
  have hp:qB 9 k v false=(10,k,v):=by
   show (if k=[]∨200<k.length then((0:Int),([]:List UInt8),([]:List UInt8)) else(10,k,v))=_
   rw[if_neg (fun hh=>hh.elim hb.2.1 hb.2.2)]
  unfold GT rY yE D0
  rw[hp]
  dsimp only
  rw[if_neg (GU hne),if_pos (show decide ((9:Int)=9)=true from rfl),if_neg (show¬((false||decide (k=[]))||decide ((200:Int)<(k.length:Int)))=true by simp [hb.2.1]<;>omega),aBH (tag,(cms,(fds,(es,())))) k (by have:=h.en;dsimp only;omega),Option.bind_some,aBG]
  simp only[pW,Option.bind_some,decide_eq_true_eq,Int.reduceEq,↓reduceIte]
  rw[h.id k]
  have hen1:=h.en
  by_cases hd:(es.any fun y=>decide (y.1=k))=true
  ·rw[if_pos hd,if_pos hd,Option.bind_some]
   exact⟨_,_,rfl,rfl,.inl ⟨(show (9:Int)≠0 by decide),rfl⟩⟩
  ·rw[if_neg hd,if_neg hd]
   by_cases h1000:es.length=1000
   ·rw[if_pos (show ((es.length:Int)=1000) by omega),if_pos (show ((1000:Int)≤(es.length:Int)) by omega),Option.bind_some]
    exact⟨_,_,rfl,rfl,.inl ⟨(show (6:Int)≠0 by decide),rfl⟩⟩
   ·have hf:=h.b.f
    have hc:=h.b.c
    have hd2:=h.b.d
    rw[if_neg (show¬((es.length:Int)=1000) by omega),if_pos (show fl.length<4611686018427387904 by omega),if_pos (by simp only[List.length_cons,List.length_nil];omega),if_pos (by simp only[List.length_cons,List.length_nil];omega),if_neg (show¬((1000:Int)≤(es.length:Int)) by omega),if_pos (by simp only[List.length_nil];omega),if_pos (by simp only[List.nil_append,List.length_cons,List.length_nil];omega),Option.bind_some]
    refine⟨_,_,rfl,rfl,.inr ⟨es++[(k,src,v,cm,qH fl,st,fd,())],qK .str .bool k true ids,[],[],0,[],-1,[],[],[],[],false,false,true,rfl,by rw[show qH []=[] from List.length_eq_zero_iff.1 (DC [])];rfl,⟨a3Z,fun hh=>(by simp at hh),aBI h.id _ k rfl,by simp;omega,fun y hy=> ?_,h.cf,h.ff⟩⟩⟩
    rcases List.mem_append.1 hy with hy|hy
    ·exact h.ef y hy
    ·rw[List.mem_singleton.1 hy]
     exact⟨by unfold fit;dsimp only;omega,by unfold fit;dsimp only;rw[DC];omega,by unfold fit;dsimp only;omega⟩
theorem aIL (hf0:0≤f) (hf:f≤10) (hk:k.length≤20000) (hv:v.length≤20000) (hen:ends.length≤10000):GT tag cms fds es ends cm fl fd ids once fm dm hs ht src st op at0 idx tz f k v bad:=by
 have:f=0∨f=1∨f=2∨f=3∨f=4∨f=5∨f=6∨f=7∨f=8∨f=9∨f=10:=by omega
 have hr:(f=3∨f=8∨f=10)→∃rr,yE (ends,at0,idx,tag,cms,fds,es,[],src,[],cm,qH fl,st,fd,hs,ht,op) (f,k,v,bad)=some rr∧rr.1=3:=by
  intro hh
  unfold yE
  dsimp only
  rw[if_neg (GU hne),if_neg (by rcases hh with rfl|rfl|rfl<;>simp),if_neg (by rcases hh with rfl|rfl|rfl<;>simp),if_pos (by rcases hh with rfl|rfl|rfl<;>simp)]
  exact⟨_,rfl,rfl⟩
 rcases this with rfl|rfl|rfl|rfl|rfl|rfl|rfl|rfl|rfl|rfl|rfl
 ·exact aB5 h hne (.inl rfl)
 ·exact aB5 h hne (.inr rfl)
 ·exact MK h hne (.inl rfl) hk hv
 ·refine MJ h hne ?_ (hr (.inl rfl))
  cases bad
  ·rw[show qB 3 k v false=(if yB v=true then((4:Int),([]:List UInt8),v) else(0,[],[])) from rfl]
   split
   ·exact .inr (.inl rfl)
   ·exact .inl rfl
  ·exact .inl rfl
 ·exact MK h hne (.inr (.inl rfl)) hk hv
 ·exact MK h hne (.inr (.inr (.inl rfl))) hk hv
 ·exact MK h hne (.inr (.inr (.inr (.inl rfl)))) hk hv
 ·exact MK h hne (.inr (.inr (.inr (.inr rfl)))) hk hv
 ·exact MJ h hne (.inr (.inr rfl)) (hr (.inr (.inl rfl)))
 ·exact aIK h hne hk hen
 ·exact MJ h hne (.inl (by rw[JE])) (hr (.inr (.inr rfl)))
end
end Go.Proofs.YtfchbnahjcdiiaaGreatDoor
namespace Go.Proofs.YtfchbnahjcdiiaaGreatDoor
open Vc
set_option maxRecDepth 100000
def vH (ends:List Int) (a i:Int) (tag:List UInt8) (cms:List (List UInt8)) (fds:List Fld) (es:List dT1) (src:List UInt8) (cm:List (List UInt8)) (fl:List (List UInt8)) (st:Int) (fd:List Fld) (hs ht:Bool) (op:Int):RS:=
  (ends,a,i,tag,cms,fds,es,[],src,[],cm,qH fl,st,fd,hs,ht,op)
section
variable {tag:List UInt8}{cms:List (List UInt8)}{fds:List Fld}{es:List dT1}{ends:List Int}{cm:List (List UInt8)}{fl:List (List UInt8)}{fd:List Fld}{ids:List (List UInt8×Bool)}{once:List (Int×Bool)}{fm dm:List (List UInt8×Bool)}{hs ht:Bool}
variable {src:List UInt8}{st op:Int}
def aIM (ends:List Int) (e:Int) (x:PS) (y:RS) (a i tz:Int):Prop:=
  ∃ tag' cms' fds' es' ends' cm' fl' fd' ids' once' fm' dm' hs' ht' src' st' op',x=xP tag' cms' fds' es' (!decide (ends'=[])) ends' cm' src' st' fd' op' ids' once' fm' dm' fl'∧
    y=vH ends' a i tag' cms' fds' es' src' cm' fl' st' fd' hs' ht' op'∧SI tag' cms' fds' es' ends' cm' fl' fd' ids' once' fm' dm' hs' ht'∧(ends'=ends∨ends'=ends++[tz])
theorem aIN (h:SI tag cms fds es ends cm fl fd ids once fm dm hs ht) (hen:ends.length≤10000) {line:List UInt8}(hl:line.length≤5000) {a i:Nat}(ha:a≤10000) {ls:List (List UInt8)}(hi:i<ls.length) (hli:ls[i]=line) (hi2:i≤10000):
    ∃ e x,DE ((a:Int),line) (xP tag cms fds es (!decide (ends=[])) ends cm src st fd op ids once fm dm fl)=some (e,x)∧
      ((e≠0∧y8 ls (vH ends a i tag cms fds es src cm fl st fd hs ht op)=some (.inr (.inr ([],[],[],[],[],(a:Int),e))))∨
       (e=0∧∃y,y8 ls (vH ends a i tag cms fds es src cm fl st fd hs ht op)=some (.inl y)∧aIM ends e x y ((a:Int)+(line.length:Int)) ((i:Int)+1) ((a:Int)+(line.length:Int)))):=by
  obtain⟨f,k,v,bad,h1,h2,h3,h4,h5,h6⟩:=aIq hl
  have hto:i64 ((a:Int)+(line.length:Int)):=by unfold i64;omega
  rw[aIC (b:=vH ends a i tag cms fds es src cm fl st fd hs ht op) (i:=i) rfl hi (by omega) (by rw[hli];exact hto),hli,h1,Option.bind_some]
  have hfl:fit line:=by unfold fit;omega
  have h2':yA (Lib.trimLeftS (tK 10 line) [32,9])=some (qB f k v bad):=h2
  by_cases hne:ends=[]
  · subst hne
    obtain⟨rp,rr,g1,g2,g3⟩:=aII (src:=src) (st:=st) (op:=op) (tz:=(a:Int)+(line.length:Int)) (bad:=bad) h h5 h6 h3 h4
    have hc:DE ((a:Int),line) (xP tag cms fds es (!decide (([]:List Int)=[])) [] cm src st fd op ids once fm dm fl)=some (rp.1,rp.2.1,rp.2.2.1,rp.2.2.2.1,es,rp.2.2.2.2.1,rp.2.2.2.2.2.1,rp.2.2.2.2.2.2.1,rp.2.2.2.2.2.2.2.1,rp.2.2.2.2.2.2.2.2.1,rp.2.2.2.2.2.2.2.2.2.1,rp.2.2.2.2.2.2.2.2.2.2.1,rp.2.2.2.2.2.2.2.2.2.2.2.1,rp.2.2.2.2.2.2.2.2.2.2.2.2.1,rp.2.2.2.2.2.2.2.2.2.2.2.2.2.1,ids,rp.2.2.2.2.2.2.2.2.2.2.2.2.2.2.1,rp.2.2.2.2.2.2.2.2.2.2.2.2.2.2.2.1,rp.2.2.2.2.2.2.2.2.2.2.2.2.2.2.2.2.1,rp.2.2.2.2.2.2.2.2.2.2.2.2.2.2.2.2.2):=by
      unfold DE xP
      dsimp only
      rw[a3T hfl,Option.bind_some,h2',Option.bind_some,if_neg (by simp),if_pos hto]
      rw[show (!decide (([]:List Int)=[]))=false by simp,g1,Option.bind_some]
    have hr:yE (vH [] a i tag cms fds es src cm fl st fd hs ht op) (f,k,v,bad)=some (rr.2.2.2.2.2.2.2.2.2.2.2.2.2.2,rr.2.2.2.2.2.2.2.2.2.2.2.2.2.1,rr.1,rr.2.1,rr.2.2.1,es,rr.2.2.2.1,rr.2.2.2.2.1,rr.2.2.2.2.2.1,rr.2.2.2.2.2.2.1,rr.2.2.2.2.2.2.2.1,rr.2.2.2.2.2.2.2.2.1,rr.2.2.2.2.2.2.2.2.2.1,rr.2.2.2.2.2.2.2.2.2.2.1,rr.2.2.2.2.2.2.2.2.2.2.2.1,rr.2.2.2.2.2.2.2.2.2.2.2.2.1):=by
      unfold yE vH
      dsimp only
      rw[if_pos (by simp),g2,Option.bind_some]
    refine⟨_,_,hc,?_⟩
    rw[hr,Option.bind_some]
    rcases g3 with⟨e1,e2⟩ |⟨tag',cms',fds',cm',src',st',fd',op',once',fm',dm',fl',hs',ht',dn,rfl,rfl,hS⟩
    · dsimp only
      rw[e2,if_pos (by simpa using e1)]
      exact .inl ⟨e1,rfl⟩
    · dsimp only
      rw[if_neg (show¬(!decide ((0:Int)=0))=true by decide)]
      cases dn with
      | true=>
        rw[if_pos rfl,if_pos (by show ((vH [] (a:Int) (i:Int) tag cms fds es src cm fl st fd hs ht op).1.length+1)*8≤_;unfold vH;simp)]
        exact .inr ⟨rfl,_,rfl,tag',cms',fds',es,[(a:Int)+(line.length:Int)],cm',fl',fd',ids,once',fm',dm',hs',ht',src',st',op',rfl,rfl,hS,.inr rfl⟩
      | false=>
        rw[if_neg Bool.false_ne_true]
        exact .inr ⟨rfl,_,rfl,tag',cms',fds',es,[],cm',fl',fd',ids,once',fm',dm',hs',ht',src',st',op',rfl,rfl,hS,.inl rfl⟩
  · obtain⟨rp,rr,g1,g2,g3⟩:=aIL (src:=src) (st:=st) (op:=op) (at0:=(a:Int)) (idx:=(i:Int)) (tz:=(a:Int)+(line.length:Int)) (bad:=bad) h hne h5 h6 h3 h4 hen
    have hin:(!decide (ends=[]))=true:=by simpa using hne
    have hc:DE ((a:Int),line) (xP tag cms fds es (!decide (ends=[])) ends cm src st fd op ids once fm dm fl)=some (rp.1,tag,cms,fds,rp.2.1,true,rp.2.2.1,rp.2.2.2.2.1,rp.2.2.2.2.2.1,rp.2.2.2.2.2.2.1,rp.2.2.2.2.2.2.2.1,rp.2.2.2.2.2.2.2.2.1,rp.2.2.2.2.2.2.2.2.2.1,rp.2.2.2.2.2.2.2.2.2.2.1,rp.2.2.2.2.2.2.2.2.2.2.2.1,rp.2.2.2.1,rp.2.2.2.2.2.2.2.2.2.2.2.2.1,rp.2.2.2.2.2.2.2.2.2.2.2.2.2.1,rp.2.2.2.2.2.2.2.2.2.2.2.2.2.2.1,rp.2.2.2.2.2.2.2.2.2.2.2.2.2.2.2):=by
      rw[hin]
      unfold DE xP
      dsimp only
      rw[a3T hfl,Option.bind_some,h2',Option.bind_some,if_pos rfl,if_pos hto,g1,Option.bind_some]
    refine⟨_,_,hc,?_⟩
    have g2':yE (vH ends a i tag cms fds es src cm fl st fd hs ht op) (f,k,v,bad)=some rr:=g2
    rw[g2',Option.bind_some]
    rcases g3 with⟨e1,e2⟩ |⟨es',ids',cm',src',st',fd',op',once',fm',dm',fl',hs',ht',dn,rfl,rfl,hS⟩
    · rw[e2,if_pos (by simpa using e1)]
      exact .inl ⟨e1,rfl⟩
    · dsimp only
      rw[if_neg (show¬(!decide ((0:Int)=0))=true by decide)]
      cases dn with
      | true=>
        rw[if_pos rfl,if_pos (by show ((vH ends (a:Int) (i:Int) tag cms fds es src cm fl st fd hs ht op).1.length+1)*8≤_;unfold vH;dsimp only;omega)]
        exact .inr ⟨rfl,_,rfl,tag,cms,fds,es',ends++[(a:Int)+(line.length:Int)],cm',fl',fd',ids',once',fm',dm',hs',ht',src',st',op',by rw[show (!decide (ends++[(a:Int)+(line.length:Int)]=[]))=true by simp];rfl,rfl,hS,.inr rfl⟩
      | false=>
        rw[if_neg Bool.false_ne_true]
        have he:ends++(if false=true then[(a:Int)+(line.length:Int)] else[])=ends:=by simp
        rw[he] at hS⊢
        exact .inr ⟨rfl,_,rfl,tag,cms,fds,es',ends,cm',fl',fd',ids',once',fm',dm',hs',ht',src',st',op',by rw[hin];rfl,rfl,hS,.inl rfl⟩
end
def aB6 (s:List UInt8) (ls:List (List UInt8)) (l:List (Int×List UInt8)) (x:PS) (y:RS):Prop:=
  (∃e at1:Int,e≠0∧v7 EU l x=none∧v7 EV l x=some (.inr (at1,e))∧pF (y8 ls) y=some (.inr ([],[],[],[],[],at1,e)))∨
  (∃tag' cms' fds' es' ends' cm' fl' fd' ids' once' fm' dm' hs' ht' src' st' op',v7 EU l x=some (.inl (xP tag' cms' fds' es' (!decide (ends'=[])) ends' cm' src' st' fd' op' ids' once' fm' dm' fl'))∧
    v7 EV l x=some (.inl (xP tag' cms' fds' es' (!decide (ends'=[])) ends' cm' src' st' fd' op' ids' once' fm' dm' fl'))∧
    pF (y8 ls) y=some (.inl (ends',tag',cms',fds',es',[],src',[],cm',qH fl',st',fd',hs',ht',op'))∧SI tag' cms' fds' es' ends' cm' fl' fd' ids' once' fm' dm' hs' ht'∧(ends'=[]∨F5 s.length ends')∧ends'.length≤s.length)
theorem kR {s:List UInt8}(hs0:s.length≤5000): ∀(n a i:Nat) {tag:List UInt8}{cms:List (List UInt8)}{fds:List Fld}{es:List dT1}{ends:List Int}{cm:List (List UInt8)}{fl:List (List UInt8)}{fd:List Fld}{ids:List (List UInt8×Bool)}{once:List (Int×Bool)}{fm dm:List (List UInt8×Bool)}{hs ht:Bool}{src:List UInt8}{st op:Int},
    a≤s.length→s.length≤n+a→(tH s).drop i=sO s n a→i≤a→SI tag cms fds es ends cm fl fd ids once fm dm hs ht→(ends=[]∨F5 a ends)→ends.length≤i→
    aB6 s ((tH s).map (·.2)) (sO s n a) (xP tag cms fds es (!decide (ends=[])) ends cm src st fd op ids once fm dm fl) (vH ends a i tag cms fds es src cm fl st fd hs ht op):=by
  intro n
  induction n with
  | zero=>
    intro a i tag cms fds es ends cm fl fd ids once fm dm hs ht src st op ha hn hd hia h hea hei
    have hlen:(tH s).length≤i:=by
      have:=congrArg List.length hd
      rw[List.length_drop,show sO s 0 a=[] from rfl,List.length_nil] at this
      omega
    have hst:y8 ((tH s).map (·.2)) (vH ends a i tag cms fds es src cm fl st fd hs ht op)=some (.inr (.inl (ends,tag,cms,fds,es,[],src,[],cm,qH fl,st,fd,hs,ht,op))):=by
      unfold y8 vH
      dsimp only
      rw[if_neg (by simp;omega)]
    refine .inr ⟨tag,cms,fds,es,ends,cm,fl,fd,ids,once,fm,dm,hs,ht,src,st,op,rfl,rfl,tN hst,h,?_,by omega⟩
    rcases hea with h1|h1
    ·exact .inl h1
    ·exact .inr (a3N h1 ha)
  | succ n ih=>
    intro a i tag cms fds es ends cm fl fd ids once fm dm hs ht src st op ha hn hd hia h hea hei
    by_cases hlt:a<s.length
    · have hto:=a7i hlt
      have hl:sO s (n+1) a=((a:Int),(s.drop a).take (sG s a-a))::sO s n (sG s a):=by rw[sO,if_pos hlt]
      rw[hl] at hd⊢
      have hil:i<(tH s).length:=by
        have:=congrArg List.length hd
        rw[List.length_drop,List.length_cons] at this
        omega
      have hget:(tH s)[i]=((a:Int),(s.drop a).take (sG s a-a)):=by
        have:=List.drop_eq_getElem_cons hil
        rw[hd] at this
        exact(List.cons.inj this).1.symm
      have hd2:(tH s).drop (i+1)=sO s n (sG s a):=by
        have:=List.drop_eq_getElem_cons hil
        rw[hd] at this
        exact(List.cons.inj this).2.symm
      have hlen:((s.drop a).take (sG s a-a)).length=sG s a-a:=by rw[List.length_take,List.length_drop];omega
      have hi2:i<((tH s).map (·.2)).length:=by rw[List.length_map];exact hil
      have hli:((tH s).map (·.2))[i]=(s.drop a).take (sG s a-a):=by rw[List.getElem_map,hget]
      obtain⟨e,x,hc,hres⟩:=aIN (src:=src) (st:=st) (op:=op) h (by omega) (line:=(s.drop a).take (sG s a-a)) (by omega) (a:=a) (i:=i) (by omega) hi2 hli (by omega)
      rcases hres with⟨he,hr⟩ |⟨rfl,y,hr,tag',cms',fds',es',ends',cm',fl',fd',ids',once',fm',dm',hs',ht',src',st',op',rfl,rfl,hS,hE⟩
      · refine .inl ⟨e,(a:Int),he,?_,?_,tN hr⟩
        · unfold v7
          rw[aB0,hc,Option.bind_some,if_pos (by simpa using he)]
          rfl
        · unfold v7
          rw[aB1,hc,Option.bind_some,if_pos (by simpa using he)]
          rfl
      · have hto2:(a:Int)+(((s.drop a).take (sG s a-a)).length:Int)=((sG s a:Nat):Int):=by rw[hlen];omega
        rw[hto2] at hr hE
        have hnext:=ih (sG s a) (i+1) (src:=src') (st:=st') (op:=op') hto.2 (by omega) hd2 (by omega) hS (by
          rcases hE with rfl|rfl
          · rcases hea with h1|h1
            ·exact .inl h1
            ·exact .inr (a3N h1 (by omega))
          · rcases hea with rfl|h1
            ·exact .inr (aH3 _)
            ·exact .inr (aH2 h1 (by omega))) (by
          rcases hE with rfl|rfl
          ·omega
          ·simp;omega)
        have hr2:pF (y8 ((tH s).map (·.2))) (vH ends a i tag cms fds es src cm fl st fd hs ht op)=pF (y8 ((tH s).map (·.2))) (vH ends' (sG s a:Nat) ((i+1:Nat):Int) tag' cms' fds' es' src' cm' fl' st' fd' hs' ht' op'):=CE hr
        have f1:v7 EU (((a:Int),(s.drop a).take (sG s a-a))::sO s n (sG s a)) (xP tag cms fds es (!decide (ends=[])) ends cm src st fd op ids once fm dm fl)=v7 EU (sO s n (sG s a)) (xP tag' cms' fds' es' (!decide (ends'=[])) ends' cm' src' st' fd' op' ids' once' fm' dm' fl'):=by
          rw[v7,aB0,hc,Option.bind_some]
          dsimp only
          rw[if_neg (show¬(!decide ((0:Int)=0))=true by decide)]
          rfl
        have f2:v7 EV (((a:Int),(s.drop a).take (sG s a-a))::sO s n (sG s a)) (xP tag cms fds es (!decide (ends=[])) ends cm src st fd op ids once fm dm fl)=v7 EV (sO s n (sG s a)) (xP tag' cms' fds' es' (!decide (ends'=[])) ends' cm' src' st' fd' op' ids' once' fm' dm' fl'):=by
          rw[v7,aB1,hc,Option.bind_some]
          dsimp only
          rw[if_neg (show¬(!decide ((0:Int)=0))=true by decide)]
          rfl
        unfold aB6 at hnext⊢
        rw[f1,f2,hr2]
        exact hnext
    · have hl:sO s (n+1) a=sO s 0 a:=by rw[RF (by omega),RF (by omega)]
      have hlen:(tH s).length≤i:=by
        rw[hl] at hd
        have:=congrArg List.length hd
        rw[List.length_drop,show sO s 0 a=[] from rfl,List.length_nil] at this
        omega
      have hst:y8 ((tH s).map (·.2)) (vH ends a i tag cms fds es src cm fl st fd hs ht op)=some (.inr (.inl (ends,tag,cms,fds,es,[],src,[],cm,qH fl,st,fd,hs,ht,op))):=by
        unfold y8 vH
        dsimp only
        rw[if_neg (by simp;omega)]
      rw[hl]
      refine .inr ⟨tag,cms,fds,es,ends,cm,fl,fd,ids,once,fm,dm,hs,ht,src,st,op,rfl,rfl,tN hst,h,?_,by omega⟩
      rcases hea with h1|h1
      ·exact .inl h1
      ·exact .inr (a3N h1 ha)
theorem aIP {s:List UInt8}(hs0:s.length≤5000): ∃v,y9 s=some v∧fit v.2.1∧fit v.2.2.1∧fit v.2.2.2.1∧(∀y∈v.2.2.2.1,EntFit y)∧
    ((v.2.2.2.2.2.2≠0∧v.1=[]∧v.2.1=[]∧v.2.2.1=[]∧v.2.2.2.1=[]∧rL s=none∧EW s=some (v.2.2.2.2.2.1,v.2.2.2.2.2.2))∨
     (v.2.2.2.2.2.2=0∧v.2.2.2.2.2.1=0∧F5 s.length v.2.2.2.2.1∧v.2.2.2.2.1.length≤s.length∧∃r,rL s=some r∧r.1=v.1∧r.2.1=v.2.1∧r.2.2.1=v.2.2.1∧r.2.2.2.1=v.2.2.2.1∧r.2.2.2.2.2.1=v.2.2.2.2.1)):=by
  have hSI:SI [] [] [] [] [] [] [] [] [] [] [] [] false false:=⟨a3Z,fun _=>rfl,fun _=>rfl,by decide,fun _ hh=>by(cases hh),AW,AW⟩
  have hsim:=kR hs0 s.length 0 0 (src:=[]) (st:=0) (op:= -1) (Nat.zero_le _) (by omega) (by rw[List.drop_zero];rfl) (Nat.le_refl _) hSI (.inl rfl) (Nat.le_refl _)
  have hs4:qH []=[]:=List.length_eq_zero_iff.1 (DC [])
  have hx:xP [] [] [] [] (!decide (([]:List Int)=[])) [] [] [] 0 [] (-1) [] [] [] [] []=(([]:List UInt8),([]:List (List UInt8)),([]:List p8),([]:List dT1),false,([]:List Int),([]:List (List UInt8)),([]:List UInt8),([]:List UInt8),([]:List UInt8),([]:List (List UInt8)),(0:Int),([]:List p8),(-1:Int),([]:List ((List UInt8)×Bool)),([]:List (Int×Bool)),([]:List ((List UInt8)×Bool)),([]:List ((List UInt8)×Bool)),([]:List (List UInt8))):=by
    rw[show (!decide (([]:List Int)=[]))=false by simp]
    rfl
  have hy:vH [] (0:Nat) (0:Nat) [] [] [] [] [] [] [] 0 [] false false (-1)=(([]:List Int),(0:Int),(0:Int),([]:List UInt8),([]:List (List UInt8)),([]:List p8),([]:List dT1),([]:List UInt8),([]:List UInt8),([]:List UInt8),([]:List (List UInt8)),([]:List (List UInt8)),(0:Int),([]:List p8),false,false,(-1:Int)):=by
    unfold vH
    rw[hs4]
    rfl
  rw[hx,hy] at hsim
  have hlI:sO s s.length 0=tH s:=rfl
  rw[hlI] at hsim
  unfold y9 rL EW
  rw[aIv (by omega),Option.bind_some,if_pos (by omega),if_pos (by omega)]
  rcases hsim with⟨e,at1,he,h1,h2,h3⟩ |⟨tag',cms',fds',es',ends',cm',fl',fd',ids',once',fm',dm',hs',ht',src',st',op',h1,h2,h3,h4,h5,h6⟩
  · rw[h1,h2,h3]
    exact⟨_,rfl,AW,AW,AW,fun _ hh=>by(cases hh),.inl ⟨he,rfl,rfl,rfl,rfl,rfl,rfl⟩⟩
  · rw[h1,h2,h3]
    unfold xP
    simp only[qM,Option.bind_some]
    by_cases hn:ends'=[]
    · rw[if_pos (by rw[hn];rfl),if_pos (by rw[hn];rfl),if_pos (by rw[hn];rfl)]
      exact⟨_,rfl,AW,AW,AW,fun _ hh=>by(cases hh),.inl ⟨show (3:Int)≠0 by decide,rfl,rfl,rfl,rfl,rfl,rfl⟩⟩
    · have hl0: ¬decide ((List.length ends':Int)=0)=true:=GU hn
      have hd:(!(!decide (ends'=[])))=false:=by simpa using hn
      rw[if_neg hl0,hd]
      simp only[Bool.false_eq_true,↓reduceIte]
      by_cases ho:decide (0≤op')=true
      · simp only[ho,↓reduceIte]
        exact⟨_,rfl,AW,AW,AW,fun _ hh=>by(cases hh),.inl ⟨show (3:Int)≠0 by decide,(by first|rfl|trivial),(by first|rfl|trivial),(by first|rfl|trivial),(by first|rfl|trivial),(by first|rfl|trivial),(by first|rfl|trivial)⟩⟩
      · simp only[ho,Bool.false_eq_true,↓reduceIte]
        have hen:=h4.en
        exact⟨_,rfl,h4.cf,h4.ff,by unfold fit;dsimp only;omega,h4.ef,.inr ⟨(by first|rfl|trivial),(by first|rfl|trivial),h5.resolve_left hn,h6,_,rfl,(by first|rfl|trivial),(by first|rfl|trivial),(by first|rfl|trivial),(by first|rfl|trivial),(by first|rfl|trivial)⟩⟩
theorem aIQ {s:List UInt8}(hs0:s.length≤5000): ∃v,z6 s=some v∧zW s=some v∧fit v.2.1∧fit v.2.2.1∧fit v.2.2.2.1∧∀y∈v.2.2.2.1,EntFit y:=by
  obtain⟨v,h1,f1,f2,f3,f4,h⟩:=aIP hs0
  unfold z6 zW
  rw[h1,Option.bind_some]
  refine⟨_,?_,rfl,f1,f2,f3,f4⟩
  rcases h with⟨he,v1,v2,v3,v4,p1,p2⟩ |⟨he,ha,_,_,r,p1,q1,q2,q3,q4,_⟩
  ·rw[p1,if_neg (by simp),p2,Option.bind_some,if_pos (by simpa using he),v1,v2,v3,v4]
  ·rw[p1,if_pos (show (some r).isSome=true from rfl),Option.bind_some,if_neg (show¬(!decide ((0:Int)=0))=true by decide),q1,q2,q3,q4,he,ha]
end Go.Proofs.YtfchbnahjcdiiaaGreatDoor
namespace Go.Proofs.YtfchbnahjcdiiaaGreatDoor
open Vc
set_option maxRecDepth 1000000
theorem aIR:IV=some true:=by kernel_rfl
theorem aIS (s:List UInt8):GJ s=some true:=by
 unfold GJ
 rw[aIR,Option.bind_some,if_neg (by decide)]
 by_cases h:decide ((4000:Int)<(List.length s:Int))=true
 ·rw[if_pos h]
 ·rw[if_neg h]
  have hsm:s.length≤5000:=by simp at h;omega
  obtain⟨v,h1,h2,h3,h4,h5,h6⟩:=aIQ hsm
  rw[h1,Option.bind_some,h2,Option.bind_some]
  have hE:IG (v.1,(v.2.1,(v.2.2.1,(v.2.2.2.1,())))) (v.1,(v.2.1,(v.2.2.1,(v.2.2.2.1,()))))=some ():=by
   unfold IG LL
   dsimp only
   rw[JD _ h3,RB _ h4,aBK _ h5 h6]
   rw[if_pos sX,if_pos sX,Option.bind_some,if_pos sX]
  rw[hE,if_pos sX,JD _ h3,RB _ h4,aBK _ h5 h6]
  simp [val]
end Go.Proofs.YtfchbnahjcdiiaaGreatDoor
namespace Go.Proofs.YtfchbnahjcdiiaaGreatDoor
open Go.ChangeShapes Go.WideShapes Go.ChangeAt Go.RowKit
section
variable {H:Type}{enc:TypeId×Value→H}{P:Program}
theorem aIT (hl:laidOutB P=true) {W W':World}(hb:Below W.heap.size W W'):
  ∀{ts:List TypeId}{vs:List Value}{ds:List (DataW H)}{ps:List MemPlace},(∀t∈ts,P.readableRec t=true∧t<P.types.size)→
  DataW.TrodAll enc P W 0 (fun _=>true) true ts vs ds ps→(∀x∈ps,x.block<W.heap.size)→
  DataW.TrodAll enc P W' 0 (fun b=>decide (b<W.heap.size)) true ts vs ds ps:=by
 intro ts
 induction ts with
 |nil=>
  intro vs ds ps _ h _
  obtain⟨rfl,rfl,rfl⟩:=trodAll_nil h
  exact trodAll_mk0
 |cons t ts ih=>
  intro vs ds ps hr h hlt
  obtain⟨v,vs',d,ds',p,q,rfl,rfl,rfl,h0,r0⟩:=trodAll_cons h
  exact trodAll_cons_mk (Below.trod hl (hr t (by simp)).1 (hr t (by simp)).2 h0 hb (fun x hx=>hlt x (by simp [hx]))) (ih (fun t' ht'=>hr t' (by simp [ht'])) r0 (fun x hx=>hlt x (by simp [hx])))
theorem aIU {f:Func}{s:ChangeSpec}{W W':World}{args:Array Value}{ds gs:List (DataW H)}{before:List MemPlace}{tb:TypeId}
  (hl:laidOutB P=true) (hr: ∀t∈f.params.toList,P.readableRec t=true∧t<P.types.size)
  (hW:DataW.Whole enc P f.params.toList s.vars false W args.toList ds gs before) (hv:s.vars=[])
  (hfn:s.fn H ds={results:=[.lit (.bool true)],args:=ds}) (hrt:f.resultTypes= #[tb]) (htb:P.underlying tb=some .bool)
  (hb:Below W.heap.size W W'):s.post enc P f false true false false W args (.bool true) W':=by
 have hW':=hW
 obtain⟨p,q,hA,hV,rfl,hfz,hnd⟩:=hW
 rw[hv] at hV
 obtain⟨rfl,rfl⟩:=trodVars_none hV
 have hlt: ∀x∈p,x.block<W.heap.size:=fun x hx=>by simpa using hW'.lt x (by simp [hx])
 refine⟨ds,[],p++[],[],p,[],hW',?_,?_,?_,hb.frame _,fun h=>by cases h⟩
 ·rw[List.append_nil,hfn,hrt]
  exact trodAll_mk1 (shut_bool htb true)
 ·rw[List.append_nil,hfn]
  exact aIT hl hb hr hA hlt
 ·rw[hv,List.append_nil,hfn]
  rfl
end
end Go.Proofs.YtfchbnahjcdiiaaGreatDoor
namespace Go.Proofs.YtfchbnahjcdiiaaGreatDoor
open Go.ChangeShapes Go.WideShapes Go.ChangeAt Go.RowKit
section
variable {H:Type}{enc:TypeId×Value→H}
theorem aIV {C:Checked}{f:FuncId}{fn:Func}{s:ChangeSpec}{tb:TypeId}{BX:List (String×DataW Unit)}(own:ownKnob C.prog.godebug=none) {os:Os}(started:os.Started) (F:Stop.Interp)
  (noInit:C.prog.inits.idxOf? f=none) (hfn:C.prog.funcs[f]? =some fn)
  (hl:laidOutB C.prog=true) (hr: ∀t∈fn.params.toList,C.prog.readableRec t=true∧t<C.prog.types.size) (hv:s.vars=[])
  (hrt:fn.resultTypes= #[tb]) (htb:C.prog.underlying tb=some .bool)
  (hspec: ∀(ds:List (DataW H)) (W:World) (args:Array Value) ps,DataW.TrodAll enc C.prog W 0 (fun _=>true) true fn.params.toList args.toList ds ps→s.fn H ds={results:=[.lit (.bool true)],args:=ds})
  (witness: ∃(w:World) (tape:Tape) (i:Input),w.os=os∧(w.forCall tape i).Shaped C.prog∧i.vars=[]∧Input.okWide C.prog (w.forCall tape i) .any w.heap.size f i∧
   (OpenSpec.ofChange s).preRow enc C.prog fn [] false BX (w.forCall tape i).memory i.args∧Assume.holds {} C.prog (lone (Frame.enter C.prog f i.args .normal) [] (w.forCall tape i)))
  (contract: ∀(W:World) (base:Nat) (args:Array Value) (ds:List (DataW H)) (ps:List MemPlace),
   (∀(j:Nat) t v,fn.params[j]? =some t→args[j]? =some v→Value.okWide C.prog W .any base t v)→
   DataW.TrodAll enc C.prog W 0 (fun _=>true) true fn.params.toList args.toList ds ps→
   (∀x∈ps,x.block<W.heap.size)→laidMetH C.prog BX W→W.ShapedOpen C.prog→
   Calls C.prog f args W fun e W'=>e= .returned (.bool true)∧Below W.heap.size W W'):
  ReturnsInHanded {} C os f .any ((OpenSpec.ofChange s).preRow enc C.prog fn [] false BX) (s.post enc C.prog fn false true false false):=by
 refine returnsInHanded_of_row (C:=C) (s:=OpenSpec.ofChange s) (F:=F) own started noInit hfn witness ?_
 intro W base args ds gs before hval hW _ _ hsz hL hsh _
 have hW':=hW
 obtain⟨p,q,hA,hV,rfl,hfz,hnd⟩:=hW
 have hV':DataW.TrodVars enc C.prog W (fun _=>true) s.vars gs q:=hV
 rw[hv] at hV'
 obtain⟨rfl,rfl⟩:=trodVars_none hV'
 have hlt: ∀x∈p,x.block<W.heap.size:=fun x hx=>by simpa using hW'.lt x (by simp [hx])
 refine(contract W base args ds p hval hA hlt hL hsh).mono fun e W' ⟨he,hb⟩=> ?_
 subst he
 exact⟨_,rfl,aIU hl hr hW' hv (hspec ds W args p hA) hrt htb hb⟩
end
end Go.Proofs.YtfchbnahjcdiiaaGreatDoor
namespace Go.Proofs.YtfchbnahjcdiiaaGreatDoor
open Go.Shelf Go.Lib
open Vc
set_option maxRecDepth 100000
theorem aIW:(Rows.laid_unicode_utf8_first:DataW Unit)=Lib.firstData:=by kernel_rfl
theorem aIX:(Rows.laid_unicode_utf8_acceptRanges:DataW Unit)=Lib.acceptData:=by kernel_rfl
theorem aIY {P:Program}{w:World}{g:Nat}{t:TypeId}{k:IntKind}{zero:Array Value}(h:w.ShapedOpen P) (hg:g<P.globals.size)
  (h0:((begin P (fun _ _=>0) default).world.heap[g]?).bind Obj.row? =some (zero,t)) (hz:zero.size=1)
  (hb:P.buildable t=true) (hc:P.cellTypes P.depth t=some [t]) (hu:P.underlying t=some (.int k)): ∃m,w.cell? ⟨g,0,none⟩=some (.int k m):=by
 obtain⟨cs,hh,hs,hr⟩:=h.1 g zero t hg h0
 obtain⟨ts,hts,_,hall⟩:=hr hb
 rw[hc] at hts
 cases hts
 have h1:0<cs.size:=by omega
 obtain⟨u,hu',hok⟩:=hall 0 cs[0] (by simp [h1])
 have:u=t:=by simpa using hu'.symm
 subst this
 have hcell:w.cell? ⟨g,0,none⟩=some cs[0]:=by simp [World.cell?,hh,h1]
 rw[hcell]
 unfold Cell.ok at hok
 rw[hu] at hok
 cases hv:cs[0]<;>rw[hv] at hok<;>simp at hok
 rename_i k' m
 exact⟨m,by rw[hok.1]⟩
theorem aIZ {W:World}(hsh:W.ShapedOpen Tryz.prog): ∃m,W.cell? ⟨0,0,none⟩=some (.int .i64 m):=
 aIY (t:=3) (zero:= #[.int .i64 0]) hsh (of_decide_eq_true (by kernel_rfl)) (by kernel_rfl) rfl (by kernel_rfl) (by kernel_rfl) Tryz.underlying3
def aI0:Ren:=⟨fun x=>x,fun x=>if x=5 then 5 else if x=119 then 224 else if x=138 then 226 else 227,fun x=>if x=3 then 1 else 2⟩
theorem a30 {w:World}{a:Addr}{v:Value}(h:w.cell? a=some v):a.block<w.heap.size:=by
 unfold World.cell? at h
 split at h
 ·rename_i hb;exact(Array.getElem?_eq_some_iff.1 hb).1
 ·cases h
theorem aI1 {W:World}(hL:laidMet Tryz.prog Rows.treeParseRow.laid W) (hsh:W.ShapedOpen Tryz.prog):Tabs W:=by
 obtain⟨m,hm⟩:=aIZ hsh
 have h1:=laidMet.reads hL (.head _)
 have h2:=laidMet.reads hL (.tail _ (.head _))
 rw[aIW] at h2
 rw[aIX] at h1
 have hU:Lib.Utf8Tabs 1 2 W:=utf8Tabs_of_readsT (ρ:=aI0) ⟨by kernel_rfl,by kernel_rfl,by kernel_rfl,by kernel_rfl⟩ ⟨by kernel_rfl,by kernel_rfl,by kernel_rfl,by kernel_rfl,by kernel_rfl,by kernel_rfl,by kernel_rfl⟩ h2 h1
 refine⟨?_,hU,⟨m,hm⟩,fun _ h=>by cases h⟩
 have b0:0<W.heap.size:=a30 hm
 have b1:1<W.heap.size:=a30 (hU.1 0 (by decide))
 have b2:2<W.heap.size:=a30 (hU.2 0 (by decide)).1
 show 3≤W.heap.size
 omega
end Go.Proofs.YtfchbnahjcdiiaaGreatDoor
namespace Go.Proofs.YtfchbnahjcdiiaaGreatDoor
open Vc
open Go.ChangeShapes Go.WideShapes Go.ChangeAt Go.RowKit
set_option maxRecDepth 100000
def kS (w:World):Gh:=⟨fun b _=>b<w.heap.size,fun _=>none,fun _ _=>none⟩
theorem aI3 {W:World}(hT:Tabs W) (s:ByteArray):
  Calls Tryz.prog 6 #[.string s] W fun e W'=>e= .returned (.bool true)∧Below W.heap.size W W':=by
 have hC:a3d (M0 s.data.toList) QA=some (IW s.data.toList):=aGa _
 have ht:=aIS s.data.toList
 refine(aGc.1.2 (kS W) W (M0 s.data.toList) [.string s] [] _ ⟨(fun i b h=>by cases h),(fun i j bi bj b o _ h=>by cases h),fun b o h=>h,hT,(fun i blk b o h=>by cases h)⟩ ⟨.string s,[],rfl,?_,rfl⟩ hC ?_).mono fun e W' ⟨v,g',he,r⟩=> ?_
 ·refine⟨?_,trivial⟩
  refine .inr ⟨rfl,?_⟩
  show [Value.string s]=[Value.string ⟨s.data.toList.toArray⟩]
  rw[Array.toArray_toList]
 ·intro p hp
  have:p=((GJ s.data.toList).isSome=true):=by simpa[IW] using hp
  rw[this,ht];rfl
 ·have hv:v= .bool true:=by
   have h1:=r.ret
   unfold IW at h1
   rw[ht] at h1
   exact uG h1.1
  subst hv
  exact⟨he,⟨r.fr.os,r.fr.tape,r.fr.output,r.fr.size,fun k hk=>r.fr.blk k hk (fun o ⟨i,blk,hi,_⟩=>by cases hi)⟩⟩
end Go.Proofs.YtfchbnahjcdiiaaGreatDoor
namespace Go.Proofs.YtfchbnahjcdiiaaGreatDoor
open Go.ChangeShapes Go.WideShapes Go.ChangeAt Go.RowKit Go.Lib
open Go.ChangeMaps (open_string shut_string)
set_option maxRecDepth 100000
namespace propsParseLaw
theorem own:ownKnob Tryz.prog.godebug=none:=by kernel_rfl
theorem BX:laidOutB Tryz.prog=true:=by kernel_rfl
theorem aI4:Tryz.prog.readableRec 9=true:=by kernel_rfl
theorem nS:9<Tryz.prog.types.size:=of_decide_eq_true (by kernel_rfl)
noncomputable def RG (os:Os):World:=
 let w0:=World.holding Tryz.prog os ⟨#[],#[],[]⟩
 let rG (h:Array Obj) (g:Nat) (cs:Array Value):Array Obj:=h.modify g fun
  | .cells _ t frozen=> .cells cs t frozen
  |o=>o
 let h1:=rG w0.heap 1 (Lib.firstTab.map fun z=>Value.int .u8 z).toArray
 let h2:=rG h1 2 ((List.range 16).flatMap fun i=>[Value.int .u8 (Lib.accLo i),Value.int .u8 (Lib.accHi i)]).toArray
 {w0 with heap:=h2}
theorem aI6 (os:Os) (args:Array Value):laidMet Tryz.prog Rows.propsParseRow.laid ((RG os).forCall (fun _ _=>0) ⟨#[],args,[]⟩).memory:=
 (LaidIn.of_run [2,1] 8 (by kernel_rfl) (by kernel_rfl) (by kernel_rfl) (by kernel_rfl):LaidIn Tryz.prog _ Rows.propsParseRow.laid _).met
theorem aI7 (os:Os) {H:Type}(enc:TypeId×Value→H):
  (OpenSpec.ofChange Rows.propsParseSpec).preRow enc Tryz.prog Tryz.f6 [] false Rows.propsParseRow.laid ((RG os).forCall (fun _ _=>0) ⟨#[],#[.string ⟨#[]⟩],[]⟩).memory #[.string ⟨#[]⟩]:=by
 have hw:(DataW.whole enc Tryz.prog ((RG os).forCall (fun _ _=>0) ⟨#[],#[.string ⟨#[]⟩],[]⟩).memory Tryz.f6.params.toList (OpenSpec.ofChange Rows.propsParseSpec).vars false #[Value.string ⟨#[]⟩].toList 8).map (fun x=>(x.1,x.2.1))=
   some ([.lit (.string [])],[]):=by kernel_rfl
 obtain⟨⟨x1,x2,x3⟩,hx,hx1⟩:=Option.map_eq_some_iff.1 hw
 simp only[Prod.mk.injEq] at hx1
 obtain⟨rfl,rfl⟩:=hx1
 exact OpenSpec.preRow_of_cond 8 hx (by kernel_rfl) (fun k hk=>by cases hk) (by kernel_rfl) (aI6 os _)
theorem lifted (os:Os) (started:os.Started) (H:Type) (enc:TypeId×Value→H) (F:Stop.Interp):
  ReturnsInHanded {} Tryz.checked os 6 .any ((OpenSpec.ofChange Rows.propsParseSpec).preRow enc Tryz.prog Tryz.f6 [] false Rows.propsParseRow.laid) (Rows.propsParseSpec.post enc Tryz.prog Tryz.f6 false true false false):=by
 refine aIV (C:=Tryz.checked) (tb:=4) own started F (by kernel_rfl) Tryz.func6 BX ?_ rfl rfl Tryz.underlying4 ?_
  (witness_row_atRef (enc:=enc) (C:=Tryz.checked) false (RG os) #[.string ⟨#[]⟩] rfl (by kernel_rfl) (by kernel_rfl) (by kernel_rfl) (aI7 os enc)) ?_
 ·intro t ht
  rw[Tryz.params6] at ht
  simp only[List.mem_cons,List.not_mem_nil,or_false] at ht
  rcases ht with rfl
  exact⟨aI4,nS⟩
 ·intro ds W args ps h
  have h':DataW.TrodAll enc Tryz.prog W 0 (fun _=>true) true Tryz.f6.params.toList args.toList ds ps:=h
  rw[Tryz.params6] at h'
  obtain⟨v0,d0,rfl,rfl,h0⟩:=trodAll_one h'
  rfl
 ·intro W base args ds ps hval0 hA0 hlt hL hsh
  have hval: ∀(j:Nat) t v,Tryz.f6.params[j]? =some t→args[j]? =some v→Value.okWide Tryz.prog W .any base t v:=hval0
  have hA:DataW.TrodAll enc Tryz.prog W 0 (fun _=>true) true Tryz.f6.params.toList args.toList ds ps:=hA0
  rw[Tryz.params6] at hA hval
  obtain⟨v0,d0,rfl,rfl,h0⟩:=trodAll_one hA
  obtain⟨s,rfl,rfl,rfl,ws⟩:=open_string Tryz.underlying9 (hval 0 9 v0 rfl rfl) h0
  exact aI3 (aI1 hL hsh) s
end propsParseLaw
theorem aB7:Rows.PropsParseSaid:=
 OpenClaim.holds_of_wide 6 Tryz.f6 rfl rfl rfl rfl rfl rfl rfl ⟨rfl,rfl,rfl,rfl,rfl⟩ rfl rfl rfl rfl rfl (by kernel_rfl) Tryz.func6 (by kernel_rfl)
  (of_decide_eq_true (by kernel_rfl)) (by unfold Func.isWrapper;first|(rw[if_pos (by decide+kernel)];kernel_rfl) |(rw[if_neg (by decide+kernel)];exact⟨rfl,rfl⟩))
  (fun os started H enc _=>by rw[OpenClaim.pre_eq_preRow];exact propsParseLaw.lifted os started H enc (fun _ _ _=>0))
#print axioms aB7
end Go.Proofs.YtfchbnahjcdiiaaGreatDoor
namespace Go.Proofs.YtfchbnahjcdiiaaGreatDoor
open Go
set_option maxRecDepth 100000
theorem propsParseCard_holds:Rows.PropsParseCardSaid:=
 Claim7.holds_tied_plain_at .later [] [.data,.pinned] true (true, "146bb05169042bd84b58c90b8373b19d6ea2c804118574bd5c158f8fcdc71822") false
  aB7 (fun _ h=>by cases h) (by kernel_rfl) (fun _ h=>by cases h) propsParse_row_tie rfl ⟨rfl,rfl⟩ (by kernel_rfl) rfl
  (fun f fn hf hfn=>by
   obtain rfl:f=6:=Option.some.inj ((show Tryz.prog.funcNamed "calque/calquelaw38.PropsParse" =some 6 by kernel_rfl).symm.trans hf) |>.symm
   obtain rfl:fn=Tryz.f6:=(Option.some.inj (Tryz.func6.symm.trans hfn)).symm
   exact⟨by kernel_rfl,fun j t ht=>by
    rw[Tryz.params6] at ht
    have hm:t∈[9]:=by simpa using Array.mem_of_getElem? ht
    have hall:([9].all fun u=> !Tryz.prog.wantsStandIn u)=true:=by kernel_rfl
    exact(show Tryz.prog.wantsStandIn t=false by simpa using List.all_eq_true.1 hall t hm)⟩)
  (by kernel_rfl)
#print axioms propsParseCard_holds
end Go.Proofs.YtfchbnahjcdiiaaGreatDoor
