/- Packed by a program of mine (wip/tools/pack.py): the same texts with short names and few blanks. -/
import Derived.Deep.CondSized
import Derived.Deep.DeepHandedRow
import Derived.Deep.DeepWitnessRowRef
import Derived.KernelRfl
import Derived.Lib.Index
import Derived.Lib.LaidIn
import Derived.Lib.LaidU8T
import Derived.OpenShut
import Derived.ProofKit
import Derived.SizedLaws
import Derived.Sort.Walk0
import Derived.Test.YtbbpilohihldiaaGreatDoorRows
import Derived.WalkKit
import Derived.Test.YtbbpilohihldiaaGreatDoorX03
set_option linter.unusedVariables false
set_option linter.unusedSimpArgs false
set_option linter.unusedSectionVars false
set_option maxRecDepth 100000
set_option maxHeartbeats 4000000
namespace Go.Proofs.YtbbpilohihldiaaGreatDoor
open Vc
def zO (n:Int) (b:UInt8):Bool:=decide (b=10)||((decide (n=2)||decide (n=3))&&decide (b=34))
def t7 (n:Int):List UInt8->List UInt8×Nat
 |[]=>([],0)
 |b::t=>if b=92 then xH (b::t) else if zO n b=true then([b],0) else([b],1)
theorem VL {l:List UInt8}{k:Nat}{ok:Int->Bool}{f:Int->List UInt8}(hf: ∀n,(f n).length<=4):(EL l k ok f).1.length<=4/\((EL l k ok f).2=0\/(EL l k ok f).2=k):=by
 unfold EL;cases yF 16 0 l with
 |none=>exact⟨by simp,.inl rfl⟩
 |some n=>
  dsimp only;split
  ·exact⟨hf n,.inr rfl⟩
  ·exact⟨by simp,.inl rfl⟩
theorem aMa (l:List UInt8):(xH l).1.length<=4/\(xH l).2<=l.length:=by
 unfold xH;split
 ·rename_i a c t;have h1:=VL (l:=t.take 2) (k:=4) (ok:=fun n=>decide (n<=127)) (f:=fun n=>sI [n]) (fun n=>by simp [sI]);have h2:=VL (l:=t.take 4) (k:=6) (ok:=wP) (f:=Lib.encodeRune) a6T
  repeat' split
  all_goals first
   |exact⟨by simp,by simp⟩
   |(rename_i h;exact⟨h1.1,by rcases h1.2 with e|e<;>rw[e]<;>simp<;>omega⟩)
   |(rename_i h;exact⟨h2.1,by rcases h2.2 with e|e<;>rw[e]<;>simp<;>omega⟩)
 ·exact⟨by simp,by simp⟩
theorem N3 {n:Int}{b:UInt8}{t:List UInt8}(h:b=92):t7 n (b::t)=xH (b::t):=if_pos h
theorem KE {n:Int}{b:UInt8}{t:List UInt8}(h:b≠92) (hb:zO n b=true):t7 n (b::t)=([b],0):=(if_neg h).trans (if_pos hb)
theorem N4 {n:Int}{b:UInt8}{t:List UInt8}(h:b≠92) (hb: ¬zO n b=true):t7 n (b::t)=([b],1):=(if_neg h).trans (if_neg hb)
theorem QU (n:Int) (l:List UInt8):(t7 n l).1.length<=4/\(t7 n l).2<=l.length:=by
 cases l with
 |nil=>exact⟨by simp [t7],by simp [t7]⟩
 |cons b t=>
  by_cases h:b=92
  ·rw[N3 h];exact aMa _
  ·by_cases hb:zO n b=true
   ·rw[KE h hb];exact⟨by simp,by simp⟩
   ·rw[N4 h hb];exact⟨by simp,by simp⟩
def x8 (n:Int):Nat->List UInt8->List UInt8⊕Nat
 |0,_=> .inl []
 |_+1,[]=> .inl []
 |k+1,b::t=>if (t7 n (b::t)).2=0 then .inr 0 else match x8 n k ((b::t).drop (t7 n (b::t)).2) with
  | .inl r=> .inl ((t7 n (b::t)).1++r)
  | .inr e=> .inr ((t7 n (b::t)).2+e)
def yG (n:Int) (s:List UInt8):List UInt8×Int×Int:=match x8 n s.length s with
 | .inl r=>(r,0,0)
 | .inr e=>([],e,3)
theorem BN (a b:List UInt8):s5 (a++b)=s5 a++s5 b:=by simp [s5]
theorem N5 (a:List UInt8):sI (s5 a)=a:=by
 unfold sI s5;rw[List.map_map]
 conv=>rhs;rw[<-List.map_id a]
 congr 1;funext b;simp
theorem aMb {s:List UInt8}{i:Nat}(h:i<s.length):q7 s (i:Int) ((i:Int)+1)=[s[i]]:=by
 unfold q7;rw[aRY,show ((i:Int)+1).toNat-i=1 by omega,aRC h];rfl
theorem aMc {n:Int}(h1:1<=n) (h3:n<=3) {s:List UInt8}(hs:q8 s) {x:List Int}{i:Nat}(hi:i<s.length) (hx:x.length<=10000000000000):
  QI n s (x,(i:Int))=if (t7 n (s.drop i)).2=0 then some (.inr (.inr ([],(i:Int),3))) else some (.inl (x++s5 (t7 n (s.drop i)).1,((i+(t7 n (s.drop i)).2:Nat):Int))):=by
 have hs':=hs;unfold q8 at hs';have hn4:decide (n=4)=false:=by simp;omega
 have hp:=QU n (s.drop i);rw[aRy] at hp;unfold QI;dsimp only;rw[if_pos (tO hi),if_pos (sA hi),if_pos (tC (by omega)),if_pos ⟨by omega,by omega,by omega⟩,zI hi,aMb hi,AU,yY (n:=92) 92 rfl,yY (n:=38) 38 rfl,yY (n:=10) 10 rfl,yY (n:=34) 34 rfl,hn4];have hb: ∀v:List UInt8×Nat,v.1.length<=4->v.2<=s.length-i->
   ((if decide ((v.2:Int)=0)=true then(some (.inr (.inr (([]:List UInt8),(i:Int),(3:Int)))):Option ((List Int×Int)⊕(List Int⊕(List UInt8×Int×Int)))) else if x.length+v.1.length<=140737488355328 then if pP ((i:Int)+(v.2:Int)) then some (.inl ((x++s5 v.1),((i:Int)+(v.2:Int)))) else none else none)=if v.2=0 then some (.inr (.inr ([],(i:Int),3))) else some (.inl (x++s5 v.1,((i+v.2:Nat):Int)))):=fun v hv1 hv2=>by
  by_cases h0:v.2=0
  ·rw[if_pos (by simp [h0]),if_pos h0]
  ·rw[if_neg (by simpa using h0),if_neg h0,if_pos (by omega),if_pos (by unfold pP;omega)];rfl
 rw[aRC hi] at hp⊢;simp only[Bool.not_false,Bool.true_and,aTd,aSf,aTr];by_cases c1:s[i]=92
 ·rw[N3 c1] at hp⊢;rw[if_pos (by simpa using c1),if_pos ⟨by omega,by omega,aSi _⟩,aL8];unfold rL;simp only[aRf];exact hb _ hp.1 hp.2
 ·rw[if_neg (by simpa using c1)];by_cases c2:s[i]=10
  ·rw[if_pos (by simpa using c2),if_pos (by simpa using c2),KE c1 (show zO n s[i]=true by simp [zO,c2])];unfold rL;simp only[aRf];exact hb ([s[i]],0) (by simp) (by simp)
  ·rw[if_neg (by simpa using c2)];by_cases c3:((decide (n=2)||decide (n=3))&&decide (s[i]=34))=true
   ·rw[if_pos c3,if_pos c3,KE c1 (show zO n s[i]=true by unfold zO;rw[c3];simp)];unfold rL;simp only[aRf];exact hb ([s[i]],0) (by simp) (by simp)
   ·have hbad:zO n s[i]=false:=by
     have c3':((decide (n=2)||decide (n=3))&&decide (s[i]=34))=false:=by simpa using c3
     unfold zO;rw[c3'];simp [c2]
    have hbad': ¬zO n s[i]=true:=by simp [hbad]
    rw[N4 c1 hbad'] at hp⊢;rw[if_neg c3,if_pos (fun h=>by simp at h)];unfold rL;simp only[aRf];exact hb ([s[i]],1) (by simp) hp.2
theorem aMd {n:Int}(h1:1<=n) (h3:n<=3) (b:UInt8):JS n (b.toNat:Int)=zO n b:=by
 unfold JS zO y3;rw[yY (n:=10) 10 rfl,yY (n:=34) 34 rfl];by_cases c1:n=1
 ·subst c1;simp
 ·have h23:n=2\/n=3:=by omega
  rcases h23 with rfl|rfl<;>simp
theorem aMe {x:List Int}{c:Int}(hx:x.length<=10000000000000):JT (x,()) c=some ():=by
 unfold JT;exact if_pos (by simp only[aR5,aTp];omega)
theorem aMf {x:List Int}{t:List UInt8}(hx:x.length<=10000000000000) (ht:t.length<=4000000000):yA (x,()) t=some ():=by
 unfold yA;exact if_pos (by dsimp only;omega)
theorem aMg {n:Int}(h1:1<=n) (h3:n<=3) {s:List UInt8}(hs:q8 s) {x:List Int}{i:Nat}(hi:i<s.length) (hx:x.length<=10000000000000):
  MU n s ((i:Int),x)=if (t7 n (s.drop i)).2=0 then some (.inr (.inr ([],(i:Int),3))) else some (.inl (((i+(t7 n (s.drop i)).2:Nat):Int),x++s5 (t7 n (s.drop i)).1)):=by
 have hs':=hs;unfold q8 at hs';have hp:=QU n (s.drop i);rw[aRy] at hp;unfold MU;dsimp only;rw[if_pos (tO hi),if_pos (sA hi),zI hi,AU,yY (n:=92) 92 rfl,aMd h1 h3];rw[aRC hi] at hp⊢;by_cases c1:s[i]=92
 ·rw[N3 c1] at hp⊢;rw[if_pos (by simpa using c1),if_pos ⟨by omega,by omega,aSi _⟩,aL9];simp only[aRf];by_cases h0:(xH (s[i]::s.drop (i+1))).2=0
  ·rw[if_pos (by rw[h0];rfl),if_pos h0]
  ·rw[if_neg (by rw[aRk];omega),if_neg h0,aMf hx (by omega)];simp only[aRf];rw[if_pos (by unfold pP;omega)];rfl
 ·rw[if_neg (by simpa using c1),if_pos (sA hi)];by_cases hb:zO n s[i]=true
  ·rw[if_pos hb,KE c1 hb];rfl
  ·rw[if_neg hb,N4 c1 hb,if_pos (sA hi),aMe hx,aRf];rw[if_pos (tC (by omega))];rfl
theorem aEZ {n:Int}(h1:1<=n) (h3:n<=3) {s:List UInt8}(hs:q8 s): ∀(k i:Nat) (x:List Int),i<=s.length->s.length-i<=k->x.length+4*(s.length-i)<=5000000000000->
  qM (QI n s) (x,(i:Int))=some (match x8 n k (s.drop i) with| .inl r=> .inl (x++s5 r) | .inr e=> .inr ([],((i+e:Nat):Int),3))
 |k,i,x,hi,hk,hx=>by
  by_cases hlt:i<s.length
  ·cases k with
   |zero=>omega
   |succ k=>
    have hp:=QU n (s.drop i);rw[yV,aMc h1 h3 hs hlt (by omega)];rw[aRy] at hp;have hu:x8 n (k+1) (s.drop i)=if (t7 n (s.drop i)).2=0 then .inr 0 else match x8 n k ((s.drop i).drop (t7 n (s.drop i)).2) with
      | .inl r=> .inl ((t7 n (s.drop i)).1++r)
      | .inr e=> .inr ((t7 n (s.drop i)).2+e):=by
     rw[aRC hlt,x8]
    rw[hu];by_cases h0:(t7 n (s.drop i)).2=0
    ·rw[if_pos h0,if_pos h0];rfl
    ·rw[if_neg h0,if_neg h0];show qM _ (_,((i+(t7 n (s.drop i)).2:Nat):Int))=_;rw[aEZ h1 h3 hs k _ _ (by omega) (by omega) (by rw[aRh];simp only[s5,aSq];omega),aSF];cases x8 n k (s.drop (i+(t7 n (s.drop i)).2)) with
     |inl r=>dsimp only;rw[BN,aRo]
     |inr e=>dsimp only;rw[aR0]
  ·have:i=s.length:=by omega
   subst this;rw[uV (r:= .inl x) (by unfold QI;simp),aSb];cases k<;>simp [x8,s5]
theorem aE0 {n:Int}(h1:1<=n) (h3:n<=3) {s:List UInt8}(hs:q8 s): ∀(k i:Nat) (x:List Int),i<=s.length->s.length-i<=k->x.length+4*(s.length-i)<=5000000000000->
  qM (MU n s) ((i:Int),x)=some (match x8 n k (s.drop i) with| .inl r=> .inl (x++s5 r) | .inr e=> .inr ([],((i+e:Nat):Int),3))
 |k,i,x,hi,hk,hx=>by
  by_cases hlt:i<s.length
  ·cases k with
   |zero=>omega
   |succ k=>
    have hp:=QU n (s.drop i);rw[yV,aMg h1 h3 hs hlt (by omega)];rw[aRy] at hp;have hu:x8 n (k+1) (s.drop i)=if (t7 n (s.drop i)).2=0 then .inr 0 else match x8 n k ((s.drop i).drop (t7 n (s.drop i)).2) with
      | .inl r=> .inl ((t7 n (s.drop i)).1++r)
      | .inr e=> .inr ((t7 n (s.drop i)).2+e):=by
     rw[aRC hlt,x8]
    rw[hu];by_cases h0:(t7 n (s.drop i)).2=0
    ·rw[if_pos h0,if_pos h0];rfl
    ·rw[if_neg h0,if_neg h0];show qM _ (((i+(t7 n (s.drop i)).2:Nat):Int),_)=_;rw[aE0 h1 h3 hs k _ _ (by omega) (by omega) (by rw[aRh];simp only[s5,aSq];omega),aSF];cases x8 n k (s.drop (i+(t7 n (s.drop i)).2)) with
     |inl r=>dsimp only;rw[BN,aRo]
     |inr e=>dsimp only;rw[aR0]
  ·have:i=s.length:=by omega
   subst this;rw[uV (r:= .inl x) (by unfold MU;simp),aSb];cases k<;>simp [x8,s5]
theorem aMh {n:Int}(h1:1<=n) (h3:n<=3) {s:List UInt8}(hs:q8 s):QJ n s=some (yG n s):=by
 unfold QJ;have hs':=hs;unfold q8 at hs';rw[if_neg (by simp;omega),show (([]:List Int),(0:Int))=(([]:List Int),((0:Nat):Int)) from rfl,aEZ h1 h3 hs s.length 0 [] (by omega) (by omega) (by simp;omega),aSk];unfold yG;cases x8 n s.length s with
 |inl r=>
  show some (sI ([]++s5 r),(0:Int),(0:Int))=_;rw[List.nil_append,N5]
 |inr e=>
  show some (([]:List UInt8),((0+e:Nat):Int),(3:Int))=_;rw[aRR]
theorem aMi {n:Int}(h1:1<=n) (h3:n<=3) {s:List UInt8}(hs:q8 s):G6 n s=some (yG n s):=by
 unfold G6;have hs':=hs;unfold q8 at hs';rw[if_neg (by simp;omega),if_neg (by simp;omega),show ((0:Int),([]:List Int))=(((0:Nat):Int),([]:List Int)) from rfl,aE0 h1 h3 hs s.length 0 [] (by omega) (by omega) (by simp;omega),aSk];unfold yG;cases x8 n s.length s with
 |inl r=>
  show some (sI ([]++s5 r),(0:Int),(0:Int))=_;rw[List.nil_append,N5]
 |inr e=>
  show some (([]:List UInt8),((0+e:Nat):Int),(3:Int))=_;rw[aRR]
def BO (b:UInt8):Bool:=((decide (b=32)||decide (b=9))||decide (b=10))||decide (b=13)
def tQ (x y:UInt8):List UInt8->Bool
 |b::c::_=>decide (b=x)&&decide (c=y)
 |_=>false
def EM (l:List UInt8):Nat:=(l.findIdx? fun b=>decide (b=10)).getD l.length
def EN:List UInt8->Option Nat
 |[]=>none
 |b::t=>if tQ 42 47 (b::t)=true then some 0 else(EN t).map (· +1)
def KF (n:Nat) (g:Nat×Bool):Nat×Bool:=(n+g.1,g.2)
def yH:Nat->List UInt8->Nat×Bool
 |0,_=>(0,true)
 |_+1,[]=>(0,true)
 |k+1,b::t=>
  if BO b=true then KF 1 (yH k t)
  else if tQ 47 47 (b::t)=true then KF (EM (b::t)) (yH k ((b::t).drop (EM (b::t))))
  else if tQ 47 42 (b::t)=true then match EN ((b::t).drop 2) with
   |none=>(0,false)
   |some e=>KF (e+4) (yH k ((b::t).drop (e+4)))
  else(0,true)
def G (l:List UInt8):Nat×Bool:=yH l.length l
theorem VM {l:List UInt8}(h:tQ 47 47 l=true):2<=EM l/\EM l<=l.length:=by
 unfold tQ at h;split at h
 ·rename_i b c t;simp only[aRm,aRk] at h;obtain⟨rfl,rfl⟩:=h;unfold EM;rw[aSB,if_neg (by decide),aSB,if_neg (by decide)];cases h:t.findIdx? fun b=>decide (b=10) with
  |none=>simp
  |some k=>
   have:=(aRT.1 h).1;simp;omega
 ·cases h
theorem aE1: ∀{l:List UInt8}{e:Nat},EN l=some e->e+2<=l.length
 |[],_,h=>by cases h
 |b::t,e,h=>by
  unfold EN at h;split at h
  ·rename_i hb;cases h;cases t with
   |nil=>simp [tQ] at hb
   |cons c t=>simp
  ·cases hc:EN t with
   |none=>rw[hc] at h;cases h
   |some e'=>
    rw[hc] at h;obtain rfl:e'+1=e:=aRl h;have:=aE1 hc;simp only[aRj];omega
theorem VN: ∀(n k k':Nat) (l:List UInt8),l.length<=n->l.length<=k->l.length<=k'->yH k l=yH k' l
 |n,k,k',[],_,_,_=>by cases k<;>cases k'<;>rfl
 |0,_,_,b::t,h,_,_=>by simp at h
 |n+1,0,_,b::t,_,h,_=>by simp at h
 |n+1,_,0,b::t,_,_,h=>by simp at h
 |n+1,k+1,k'+1,b::t,h,h1,h2=>by
  simp only[aRj] at h h1 h2;unfold yH;split
  ·rw[VN n k k' t (by omega) (by omega) (by omega)]
  ·split
   ·rename_i hb;have:=VM hb;rw[VN n k k' _ (by rw[aRy];simp only[aRj];omega) (by rw[aRy];simp only[aRj];omega) (by rw[aRy];simp only[aRj];omega)]
   ·split
    ·cases hc:EN ((b::t).drop 2) with
     |none=>rfl
     |some e=>
      dsimp only;rw[VN n k k' _ (by rw[aRy];simp only[aRj];omega) (by rw[aRy];simp only[aRj];omega) (by rw[aRy];simp only[aRj];omega)]
    ·rfl
theorem aE2 {k:Nat}{l:List UInt8}(h:l.length<=k):yH k l=G l:=VN l.length k l.length l (Nat.le_refl _) h (Nat.le_refl _)
theorem a6V {b:UInt8}{t:List UInt8}(h:BO b=true):G (b::t)=KF 1 (G t):=by
 show yH (t.length+1) (b::t)=_;unfold yH;rw[if_pos h];rfl
theorem aE3 {b:UInt8}{t:List UInt8}(h: ¬BO b=true) (h1:tQ 47 47 (b::t)=true):G (b::t)=KF (EM (b::t)) (G ((b::t).drop (EM (b::t)))):=by
 have:=VM h1;show yH (t.length+1) (b::t)=_;unfold yH;rw[if_neg h,if_pos h1,aE2 (by rw[aRy];simp only[aRj];omega)]
theorem aE4 {b:UInt8}{t:List UInt8}(h: ¬BO b=true) (h1: ¬tQ 47 47 (b::t)=true) (h2:tQ 47 42 (b::t)=true) (hc:EN ((b::t).drop 2)=none):G (b::t)=(0,false):=by
 show yH (t.length+1) (b::t)=_;unfold yH;rw[if_neg h,if_neg h1,if_pos h2,hc]
theorem aE5 {b:UInt8}{t:List UInt8}{e:Nat}(h: ¬BO b=true) (h1: ¬tQ 47 47 (b::t)=true) (h2:tQ 47 42 (b::t)=true) (hc:EN ((b::t).drop 2)=some e):G (b::t)=KF (e+4) (G ((b::t).drop (e+4))):=by
 show yH (t.length+1) (b::t)=_;unfold yH;rw[if_neg h,if_neg h1,if_pos h2,hc];dsimp only;rw[aE2 (by rw[aRy];simp only[aRj];omega)]
theorem a6W {b:UInt8}{t:List UInt8}(h: ¬BO b=true) (h1: ¬tQ 47 47 (b::t)=true) (h2: ¬tQ 47 42 (b::t)=true):G (b::t)=(0,true):=by
 show yH (t.length+1) (b::t)=_;unfold yH;rw[if_neg h,if_neg h1,if_neg h2]
theorem VO: ∀(n:Nat) (l:List UInt8),l.length<=n->(G l).1<=l.length
 |_,[],_=>Nat.le_refl _
 |0,_::_,h=>by simp at h
 |n+1,b::t,h=>by
  simp only[aRj] at h⊢;by_cases h0:BO b=true
  ·rw[a6V h0];have:=VO n t (by omega);show 1+_<=_;omega
  ·by_cases h1:tQ 47 47 (b::t)=true
   ·rw[aE3 h0 h1];have hl:=VM h1;have:=VO n ((b::t).drop (EM (b::t))) (by rw[aRy];simp only[aRj] at hl⊢;omega);rw[aRy] at this;simp only[aRj] at this hl;show EM _+_<=_;omega
   ·by_cases h2:tQ 47 42 (b::t)=true
    ·cases hc:EN ((b::t).drop 2) with
     |none=>rw[aE4 h0 h1 h2 hc];exact aSg _
     |some e=>
      rw[aE5 h0 h1 h2 hc];have he:=aE1 hc;have:=VO n ((b::t).drop (e+4)) (by rw[aRy];simp only[aRj];omega);rw[aRy] at this he;simp only[aRj] at this he;show e+4+_<=_;omega
    ·rw[a6W h0 h1 h2];exact aSg _
theorem aMj {s:List UInt8}{i:Nat}(hi:i<=s.length) (x y:UInt8):((decide ((([x,y]:List UInt8).length:Int)<=((s.length:Int)- (i:Int))))&&(decide ((q7 s (i:Int) ((i:Int)+(([x,y]:List UInt8).length:Int)))=([x,y]:List UInt8))))=tQ x y (s.drop i):=by
 have hc:q7 s (i:Int) ((i:Int)+(([x,y]:List UInt8).length:Int))=(s.drop i).take 2:=by
  unfold q7;rw[aRY];congr 1;show ((i:Int)+2).toNat-i=2;omega
 have hl:(s.drop i).length=s.length-i:=aRy;rw[hc];generalize s.drop i=r at hl
 match r,hl with
 |[],hl=>simp only[aRs] at hl;rw[show decide ((([x,y]:List UInt8).length:Int)<=((s.length:Int)- (i:Int)))=false by simp only[aRj,aRs,aRU];omega];rfl
 |[b],hl=>simp only[aRj,aRs] at hl;rw[show decide ((([x,y]:List UInt8).length:Int)<=((s.length:Int)- (i:Int)))=false by simp only[aRj,aRs,aRU];omega];rfl
 |b::c::t,hl=>
  simp only[aRj] at hl;rw[show decide ((([x,y]:List UInt8).length:Int)<=((s.length:Int)- (i:Int)))=true by simp;omega,Bool.true_and];show decide ([b,c]=[x,y])=_;unfold tQ;rw[aSz];simp
theorem IE (r:List UInt8) (x y:UInt8):((decide ((([x,y]:List UInt8).length:Int)<=(r.length:Int)))&&(decide ((q7 r (0:Int) (([x,y]:List UInt8).length:Int))=([x,y]:List UInt8))))=tQ x y r:=by
 have:=aMj (s:=r) (i:=0) (aSg _) x y;rw[aSk,show ((0:Nat):Int)=0 from rfl,Int.sub_zero,Int.zero_add] at this;exact this
theorem a6X (r:List UInt8) (x y:UInt8):JW r [x,y]=some ():=by
 have h2:((([x,y]:List UInt8).length:Nat):Int)=2:=rfl;unfold JW FU;rw[h2,if_pos]
 ·rfl
 ·intro h;simp only[aS0,aRk] at h;exact⟨aSi _,by decide,h⟩
theorem aMk (x y:UInt8):(x==y)=decide (y=x):=by
 by_cases h:y=x
 ·subst h;rw[beq_self_eq_true,aSd rfl]
 ·rw[decide_eq_false h,beq_eq_false_iff_ne];exact fun e=>h e.symm
theorem aMl {o:Option Nat}:(if (AV o== -1)=true then(-1:Int) else AV o+1)=AV (o.map (· +1)):=by
 cases o with
 |none=>rfl
 |some k=>
  show (if ((k:Int)== -1)=true then(-1:Int) else(k:Int)+1)=((k+1:Nat):Int);rw[if_neg (by rw[aS0];omega)];rfl
theorem a6Y: ∀(l:List UInt8),Lib.indexByte l 10=AV (l.findIdx? fun b=>decide (b=10))
 |[]=>rfl
 |b::t=>by
  rw[Lib.indexByte,aSB,a6Y t,aMk,aMl];by_cases h:b=10
  ·subst h;rfl
  ·rw[if_neg (by simpa using fun e=>h (Eq.symm e)),if_neg (by simpa using h)]
def GB (c:Int):Bool:=((decide ((97:Int)≤c))&&(decide (c≤(122:Int))))||((decide ((65:Int)≤c))&&(decide (c≤(90:Int))))
def a6Z (c:Int):Bool:=((((GB c)||((decide ((48:Int)≤c))&&(decide (c≤(57:Int)))))||(decide (c=(45:Int))))||(decide (c=(95:Int))))||(decide (c=(46:Int)))
def KG (b:UInt8):Bool:=a6Z b.toNat
def N6 (l:List UInt8):Nat:=(l.findIdx? fun b=> !KG b).getD l.length
theorem aMm (l:List UInt8):N6 l≤l.length:=by
  unfold N6;cases h:l.findIdx? fun b=> !KG b with
  |none=>exact Nat.le_refl _
  |some k=>exact Nat.le_of_lt (aRT.1 h).1
def N7 (t:List UInt8):Int×List UInt8×Nat:=
  match sE 34 t with
  |none=>(0,[],0)
  |some n=>if (yG 3 (t.take n)).2.2≠0∨sD (yG 3 (t.take n)).1=false then(0,[],0) else(1,(yG 3 (t.take n)).1,n+2)
def A2 (r:List UInt8):Int×List UInt8×Nat:=
  match r with
  |[]=>(4,[],0)
  |b::t=>if b=123∨b=125 then(3,[b],1) else if b=34 then N7 t else if GB b.toNat=true then(2,(b::t).take (N6 (b::t)),N6 (b::t)) else(0,[],0)
theorem aMn {b:UInt8}{t:List UInt8}(h:b=123∨b=125):A2 (b::t)=(3,[b],1):=if_pos h
theorem aE6 {b:UInt8}{t:List UInt8}(h: ¬(b=123∨b=125)) (h2:b=34):A2 (b::t)=N7 t:=(if_neg h).trans (if_pos h2)
theorem aMo {b:UInt8}{t:List UInt8}(h: ¬(b=123∨b=125)) (h2: ¬b=34) (h3:GB b.toNat=true):A2 (b::t)=(2,(b::t).take (N6 (b::t)),N6 (b::t)):=(if_neg h).trans ((if_neg h2).trans (if_pos h3))
theorem aMp {b:UInt8}{t:List UInt8}(h: ¬(b=123∨b=125)) (h2: ¬b=34) (h3: ¬GB b.toNat=true):A2 (b::t)=(0,[],0):=(if_neg h).trans ((if_neg h2).trans (if_neg h3))
def EO (l:List UInt8):Int×List UInt8×Nat×Nat:=
  if (G l).2=true then((A2 (l.drop (G l).1)).1,(A2 (l.drop (G l).1)).2.1,(G l).1,(G l).1+(A2 (l.drop (G l).1)).2.2) else(0,[],(G l).1,(G l).1)
theorem VP: ∀(n:Nat) (l:List UInt8),l.length≤n→(G l).2=false→∃t,l.drop (G l).1=47::t
  |_,[],_,h=>by cases h
  |0,_::_,h,_=>by simp at h
  | n+1,b::t,hl,h=>by
    simp only[aRj] at hl;by_cases h0:BO b=true
    · rw[a6V h0] at h⊢
      obtain⟨u,hu⟩:=VP n t (by omega) h;refine⟨u,?_⟩;show (b::t).drop (1+(G t).1)=_;rw[Nat.add_comm,aS2];exact hu
    · by_cases h1:tQ 47 47 (b::t)=true
      · rw[aE3 h0 h1] at h⊢
        have hp:=VM h1;obtain⟨u,hu⟩:=VP n ((b::t).drop (EM (b::t))) (by rw[aRy];simp only[aRj] at hp⊢;omega) h;refine⟨u,?_⟩;rw[aSF] at hu;exact hu
      · by_cases h2:tQ 47 42 (b::t)=true
        · cases hc:EN ((b::t).drop 2) with
          | none=>
            rw[aE4 h0 h1 h2 hc];unfold tQ at h2;split at h2
            · rename_i b' c' t' he
              simp only[aRm,aRk] at h2;exact⟨c'::t',by rw[he,h2.1];rfl⟩
            ·cases h2
          | some e=>
            rw[aE5 h0 h1 h2 hc] at h⊢;obtain⟨u,hu⟩:=VP n ((b::t).drop (e+4)) (by rw[aRy];simp only[aRj];omega) h;refine⟨u,?_⟩;rw[aSF] at hu;exact hu
        ·rw[a6W h0 h1 h2] at h;cases h
theorem aMq (t:List UInt8):(N7 t).2.2≤t.length+1:=by
  unfold N7;cases h:sE 34 t with
  |none=>exact aSg _
  | some n=>
    have:=QS t.length t n (Nat.le_refl _) h;dsimp only;split
    ·exact aSg _
    ·show n+2≤_;omega
theorem aMr (r:List UInt8):(A2 r).2.2≤r.length:=by
  unfold A2;split
  ·exact aSg _
  · rename_i b t
    split
    ·simp
    · split
      ·exact aMq t
      · split
        ·exact aMm _
        ·exact aSg _
theorem aMs (l:List UInt8):(EO l).2.2.1≤(EO l).2.2.2∧(EO l).2.2.2≤l.length:=by
  have h1:=VO l.length l (Nat.le_refl _);have h2:=aMr (l.drop (G l).1);rw[aRy] at h2;unfold EO;split
  ·dsimp only;omega
  ·dsimp only;omega
theorem aMt (l:List UInt8):(xH l).2=0∨(xH l).1.length≤(xH l).2:=by
  unfold xH;split
  · rename_i a c t
    have h1:=VL (l:=t.take 2) (k:=4) (ok:=fun n=>decide (n≤127)) (f:=fun n=>sI [n]) (fun n=>by simp [sI]);have h2:=VL (l:=t.take 4) (k:=6) (ok:=wP) (f:=Lib.encodeRune) a6T
    repeat' split
    all_goals first
      |exact .inl rfl
      |exact .inr (by simp)
      | (rcases h1.2 with e|e
         ·exact .inl e
         ·exact .inr (by rw[e];exact h1.1))
      | (rcases h2.2 with e|e
         ·exact .inl e
         ·exact .inr (by rw[e];have:=h2.1;omega))
  ·exact .inl rfl
theorem aMu (n:Int) (l:List UInt8):(t7 n l).2=0∨(t7 n l).1.length≤(t7 n l).2:=by
  cases l with
  |nil=>exact .inl rfl
  | cons b t=>
    by_cases h:b=92
    ·rw[N3 h];exact aMt _
    · by_cases hb:zO n b=true
      ·rw[KE h hb];exact .inl rfl
      ·rw[N4 h hb];exact .inr (by simp)
theorem aE7 (n:Int): ∀(k:Nat) (l r:List UInt8),x8 n k l= .inl r→r.length≤l.length
  |0,_,_,h=>by cases h;simp
  |_+1,[],_,h=>by cases h;simp
  | k+1,b::t,r,h=>by
    rw[x8] at h;split at h
    ·cases h
    · rename_i hz
      have hp:=(aMu n (b::t)).resolve_left hz;have hq:=(QU n (b::t)).2;cases hu:x8 n k ((b::t).drop (t7 n (b::t)).2) with
      | inl r'=>
        rw[hu] at h;cases h;have:=aE7 n k _ r' hu;rw[aRy] at this;rw[aRh];omega
      |inr e=>rw[hu] at h;cases h
theorem a60 (n:Int) (s:List UInt8):(yG n s).1.length≤s.length:=by
  unfold yG;cases h:x8 n s.length s with
  |inl r=>exact aE7 n _ _ _ h
  |inr e=>simp
def kS (s:List UInt8) (P:Nat):Int:=(EO (s.drop P)).1
def xS (s:List UInt8) (P:Nat):List UInt8:=(EO (s.drop P)).2.1
def nS (s:List UInt8) (P:Nat):Nat:=P+(EO (s.drop P)).2.2.2
theorem aMv {s:List UInt8}{P:Nat}(h:P<=s.length):P<=nS s P/\nS s P<=s.length:=by
 have:=aMs (s.drop P);rw[aRy] at this;unfold nS;omega
theorem vO {p:Prop}{α:Type}{v:α}:p->(some v).isSome=true:=fun _=>rfl
abbrev C4:=List UInt8×(List (List UInt8)×(List rH×(List qQ×Unit)))
abbrev R8:=Int×Int×List UInt8×Int×Int×Int×Int×Int
section
variable {s:List UInt8}(hsm:s.length<=4000000000) {P:Nat}(hP:P<=s.length) {c:C4}{a e en at0 f t:Int}{k:Int}{x:List UInt8}{ends:List Int}{ids:List (List UInt8×Bool)}
 {b9 b10 b11:List UInt8}{b12 b18:List (List UInt8)}{b13:Int×(List rH×Unit)}{b14:Bool}{b21:List (List UInt8×Bool)}
include hsm hP
def EQ (x:List UInt8):Bool:= !decide (x=[])&&decide ((x.length:Int)<=200)
end
end Go.Proofs.YtbbpilohihldiaaGreatDoor
namespace Go.Proofs.YtbbpilohihldiaaGreatDoor
open Vc
section
variable {s:List UInt8}(hsm:s.length<=4000000000) {P:Nat}(hP:P<=s.length) {c:C4}{bad e:Int}{ends:List Int}{kind:Int}{text:List UInt8}
include hsm hP
def wE (l:List (List UInt8)) (x:List UInt8):Nat:=(l.findIdx? fun y=> !Op.bytesLess y x).getD l.length
def ES (l:List (List UInt8)) (x:List UInt8):List (List UInt8):=l.take (wE l x)++[x]++l.drop (wE l x)
omit hsm hP in
theorem aMw (l:List (List UInt8)) (x:List UInt8):wE l x<=l.length:=by
 unfold wE;cases h:l.findIdx? fun y=> !Op.bytesLess y x with
 |none=>exact Nat.le_refl _
 |some k=>exact Nat.le_of_lt (aRT.1 h).1
end
end Go.Proofs.YtbbpilohihldiaaGreatDoor
namespace Go.Proofs.YtbbpilohihldiaaGreatDoor
open Vc
theorem VQ {v:Ty}(a b:List UInt8) (y:v.den): ∀l:List (List UInt8×v.den),sV .str v (v7 .str v a y l) b=if b=a then y else sV .str v l b
 |[]=>by
  show (if decide (b=a)=true then y else v.zero)=if b=a then y else v.zero;by_cases h:b=a<;>simp [h]
 |(x,z)::r=>by
  have ih:=VQ a b y r;show sV .str v (if decide (a=x)=true then(a,y)::r else(x,z)::v7 .str v a y r) b=if b=a then y else(if decide (b=x)=true then z else sV .str v r b);by_cases h:a=x
  ·rw[if_pos (aSd h)];show (if decide (b=a)=true then y else sV .str v r b)=_;by_cases hb:b=a
   ·rw[if_pos (aSd hb),if_pos hb]
   ·rw[if_neg (by simpa using hb),if_neg hb,if_neg (by rw[<-h];simpa using hb)]
  ·rw[if_neg (by simpa using h)];show (if decide (b=x)=true then z else sV .str v (v7 .str v a y r) b)=_;rw[ih];by_cases hb:b=a
   ·rw[if_pos hb,if_pos hb,if_neg (by rw[hb];simpa using h)]
   ·rw[if_neg hb,if_neg hb]
abbrev S15:=Int×Int×List UInt8×Int×Int×Int×Int×Int×List UInt8×List UInt8×List (List UInt8)×Int×List rH×List (List UInt8)×List (List UInt8×Bool)
def GC (r:R8) (sr tg:List UInt8) (cm:List (List UInt8)) (st:Int) (fd:List rH) (l:List (List UInt8)) (m:List (List UInt8×Bool)):S15:=
 (r.1,r.2.1,r.2.2.1,r.2.2.2.1,r.2.2.2.2.1,r.2.2.2.2.2.1,r.2.2.2.2.2.2.1,r.2.2.2.2.2.2.2,sr,tg,cm,st,fd,l,m)
theorem BP: ∀(x y:List UInt8),Op.bytesLess x y=decide (x<y)
 |[],[]=>by simp [Op.bytesLess]
 |_::_,[]=>by simp [Op.bytesLess]
 |[],_::_=>by simp [Op.bytesLess]
 |a::x,b::y=>by
  rw[Op.bytesLess,BP x y];simp only[List.cons_lt_cons_iff];by_cases h1:a<b<;>by_cases h2:a=b<;>by_cases h3:x<y<;>simp [h1,h2,h3]
theorem aE8 (l:List (List UInt8)):(sQ l).Pairwise (·<=·):=by
 have:=List.pairwise_mergeSort (le:=fun x y:List UInt8=>decide (x<=y)) (fun a b c h1 h2=>aSd (List.le_trans (aRZ h1) (aRZ h2))) (fun a b=>by simpa using List.le_total a b) l;exact this.imp (fun h=>aRZ h)
theorem VR (l:List (List UInt8)):(sQ l).Perm l:=List.mergeSort_perm l _
theorem N8 (l:List (List UInt8)):(sQ l).length=l.length:=(VR l).length_eq
theorem aMy (l:List (List UInt8)) (p:List UInt8->Bool):(sQ l).any p=l.any p:=(VR l).any_eq
theorem aMz (l:List (List UInt8)) (x:List UInt8):(ES l x).Perm (l++[x]):=by
 unfold ES;have h:(l.take (wE l x)++l.drop (wE l x))=l:=aSs _ _;have h2:(l.take (wE l x)++[x]++l.drop (wE l x)).Perm (l.take (wE l x)++(l.drop (wE l x)++[x])):=by
  rw[aRo];exact List.Perm.append_left _ List.perm_append_comm
 have h3:l.take (wE l x)++(l.drop (wE l x)++[x])=l++[x]:=by rw[<-aRo,h]
 rw[h3] at h2;exact h2
theorem aMA {l:List (List UInt8)}(x:List UInt8) (h:l.Pairwise (·<=·)):(ES l x).Pairwise (·<=·):=by
 have ht: ∀y∈l.take (wE l x),y<=x:=by
  intro y hy;obtain⟨j,hj,rfl⟩:=List.mem_iff_getElem.1 hy;rw[aRH] at hj;rw[List.getElem_take];have:Op.bytesLess l[j] x=true:=by
   have hk:wE l x=(l.findIdx? fun y=> !Op.bytesLess y x).getD l.length:=rfl;cases hf:l.findIdx? fun y=> !Op.bytesLess y x with
   |none=>
    have:=aSn.1 hf l[j] (aSa _);simpa using this
   |some n=>
    rw[hf] at hk;have:=(aRT.1 hf).2.2 j (by rw[hk] at hj;simp only[aSO] at hj;omega);simpa using this
  rw[BP] at this;exact List.le_of_lt (aRZ this)
 have hd: ∀y∈l.drop (wE l x),x<=y:=by
  intro y hy;have hk:wE l x=(l.findIdx? fun y=> !Op.bytesLess y x).getD l.length:=rfl;cases hf:l.findIdx? fun y=> !Op.bytesLess y x with
  |none=>
   rw[hf] at hk;rw[hk] at hy;simp at hy
  |some n=>
   rw[hf] at hk;obtain⟨hn,h1,h2⟩:=aRT.1 hf;have hx:x<=l[n]:=by
    rw[BP] at h1;simp only[aRK,aRU] at h1;exact List.not_lt.1 h1
   rw[hk] at hy;simp only[aSO] at hy;rw[aRC hn] at hy;rcases aRv.1 hy with rfl|hy
   ·exact hx
   ·have hp:(l.drop n).Pairwise (·<=·):=h.sublist (List.drop_sublist _ _);rw[aRC hn] at hp;exact List.le_trans hx ((aS5.1 hp).1 y hy)
 unfold ES;rw[aRo];refine aSA.2 ⟨h.sublist (List.take_sublist _ _),aSA.2 ⟨aSS _ _,h.sublist (List.drop_sublist _ _),?_⟩,?_⟩
 ·intro a ha b hb;rw[aRr.1 ha];exact hd b hb
 ·intro a ha b hb;have hax:=ht a ha;rcases aRO.1 hb with hb|hb
  ·rw[aRr.1 hb];exact hax
  ·exact List.le_trans hax (hd b hb)
theorem aMB (l:List (List UInt8)) (x:List UInt8):ES (sQ l) x=sQ (l++[x]):=
 List.Perm.eq_of_pairwise (fun _ _ _ _ h1 h2=>List.le_antisymm h1 h2) (aMA x (aE8 l)) (aE8 _)
  ((aMz _ _).trans (((VR l).append_right _).trans (VR _).symm))
theorem aMC {σ ρ:Type}{f:σ->Option (σ⊕ρ)}{x y:σ}(h:f x=some (.inl y)):qM f x=qM f y:=by
 rw[yV,h];rfl
theorem aMD {σ ρ:Type}{f:σ->Option (σ⊕ρ)}{x:σ}{r:ρ}(h:f x=some (.inr r)):qM f x=some r:=by
 rw[yV,h];rfl
abbrev N9 (y:qQ):Prop:=q8 y.2.2.2.1/\q8 y.2.2.2.2.1/\q8 y.2.2.2.2.2.2.1
def IF (es:List qQ) (x:List UInt8):Int×Bool:=vD (fun k=>((k:Int),true)) ((0:Int),false) (es.findIdx? fun y=>decide (y.1=x))
theorem a61 (es:List qQ) (x:List UInt8):(IF es x).2=es.any fun y=>decide (y.1=x):=by
 rw[<-a6H];unfold IF;cases es.findIdx? fun y=>decide (y.1=x)<;>rfl
theorem VS (c:C4) (x:List UInt8) (hl:c.2.2.2.1.length<=5000):E6 c x=some (IF c.2.2.2.1 x):=by
 have h:=AN (f:=PC c x) (l:=c.2.2.2.1) (fun y=>decide (y.1=x)) (fun k=>((k:Int),true)) (fun i h=>by
  unfold PC;rw[if_pos (tO h),if_pos (sA h),y5 (t:=sK) h,if_pos (tC (by omega))]) (by
  unfold PC;rw[if_neg (vI _)])
 unfold E6;rw[h,G8];rfl
def VT (ids:List (List UInt8×Bool)) (es:List qQ):Prop:= ∀x,sV .str .bool ids x=es.any fun y=>decide (y.1=x)
theorem aE9 {ids:List (List UInt8×Bool)}{es:List qQ}(h:VT ids es) (e:qQ) (x:List UInt8) (he:e.1=x):VT (v7 .str .bool x true ids) (es++[e]):=by
 intro y;rw[VQ,List.any_append,<-h y];by_cases hy:y=x
 ·rw[if_pos hy];simp [he,hy]
 ·rw[if_neg hy];have:decide (e.1=y)=false:=by rw[he];simpa using fun hh=>hy hh.symm
  simp [this]
theorem DG {α:Type}:q8 ([]:List α):=by unfold q8;exact aSg _
theorem aME {l:List UInt8}:(A2 l).1=4↔l=[]:=by
 cases l with
 |nil=>exact⟨fun _=>rfl,fun _=>rfl⟩
 |cons b t=>
  refine⟨fun h=> ?_,fun h=>by cases h⟩;exfalso;by_cases h1:b=123\/b=125
  ·rw[aMn h1] at h;exact absurd h (show¬(3:Int)=4 by decide)
  ·by_cases h2:b=34
   ·rw[aE6 h1 h2] at h;unfold N7 at h;cases he:sE 34 t with
    |none=>rw[he] at h;exact absurd h (show¬(0:Int)=4 by decide)
    |some n=>
     rw[he] at h;dsimp only at h;split at h
     ·exact absurd h (show¬(0:Int)=4 by decide)
     ·exact absurd h (show¬(1:Int)=4 by decide)
   ·by_cases h3:GB b.toNat=true
    ·rw[aMo h1 h2 h3] at h;exact absurd h (show¬(2:Int)=4 by decide)
    ·rw[aMp h1 h2 h3] at h;exact absurd h (show¬(0:Int)=4 by decide)
theorem k4 {s:List UInt8}{P:Nat}(hP:P<=s.length):kS s P=4↔¬P+(G (s.drop P)).1<s.length:=by
 unfold kS EO;by_cases hg:(G (s.drop P)).2=true
 ·rw[if_pos hg];dsimp only;rw[aME,aSF,List.drop_eq_nil_iff];omega
 ·rw[if_neg hg];obtain⟨t,ht⟩:=VP (s.drop P).length (s.drop P) (Nat.le_refl _) (by simpa using hg);refine⟨fun h=>absurd h (show¬(0:Int)=4 by decide),fun h=> ?_⟩;rw[aSF,List.drop_eq_nil_of_le (by omega)] at ht;cases ht
def IG (P:Nat) (ends:List Int):Prop:= ∃l:List Nat,ends=l.map (fun n:Nat=>(n:Int))/\l≠[]/\l.Pairwise (·<=·)/\∀x∈l,x<=P
theorem aMF {P P':Nat}{ends:List Int}(h:IG P ends) (hP:P<=P'):IG P' (ends++[(P':Int)]):=by
 obtain⟨l,rfl,h1,h2,h3⟩:=h;refine⟨l++[P'],by rw[List.map_append];rfl,List.append_ne_nil_of_right_ne_nil _ (List.cons_ne_nil _ _),?_,fun x hx=> ?_⟩
 ·rw[aSA];exact⟨h2,aSS _ _,fun x hx y hy=>by rw[aRr.1 hy];exact aSe (h3 x hx) hP⟩
 ·rcases aRO.1 hx with hx|hx
  ·exact aSe (h3 x hx) hP
  ·rw[aRr.1 hx];exact Nat.le_refl _
theorem aMG (P:Nat):IG P [(P:Int)]:=⟨[P],rfl,List.cons_ne_nil _ _,aSS _ _,fun x hx=>by rw[aRr.1 hx];exact Nat.le_refl _⟩
theorem a62 {P P':Nat}{ends:List Int}(h:IG P ends) (hP:P<=P'):IG P' ends:=by
 obtain⟨l,h0,h1,h2,h3⟩:=h;exact⟨l,h0,h1,h2,fun x hx=>aSe (h3 x hx) hP⟩
theorem a63 {α:Type}{f:Int->Option (Int⊕(Unit⊕Bool))}(l:List α) (hf: ∀(i:Nat) (h:i<l.length),f i=some (.inl (i+1))) (he:f l.length=some (.inr (.inl ()))):
  qM f 0=some (.inl ()):=by
 have h:=AN (f:=f) (l:=l) (fun _=>false) (fun _=>false) (fun i h=>by rw[if_neg aRV];exact hf i h) he;rw[h];have:l.findIdx? (fun _=>false)=none:=aSn.2 (fun _ _=>rfl);rw[this];rfl
theorem NA (l:List (List UInt8)) (hl:q8 l):wL l l=some true:=by
 unfold q8 at hl;unfold wL;rw[if_neg (by simp),a63 l (fun i h=>by
  unfold UE;rw[if_pos (tO h),if_pos (sA h),if_pos (sA h),if_neg (by simp),if_pos (tC (by omega))]) (by
  unfold UE;rw[if_neg (vI _)])]
 rfl
theorem VU (l:List rH) (hl:q8 l):zJ l l=some true:=by
 unfold q8 at hl;unfold zJ;rw[if_neg (by simp),a63 l (fun i h=>by
  unfold UF;rw[if_pos (tO h),if_pos (sA h),if_pos (sA h),if_neg (by simp),if_pos (tC (by omega))]) (by
  unfold UF;rw[if_neg (vI _)])]
 rfl
theorem aMH (y:qQ) (h:N9 y):M6 y y=some ():=by
 unfold M6;rw[NA _ h.1,NA _ h.2.1,VU _ h.2.2,if_pos vO,if_pos vO,if_pos vO]
theorem aFa (l:List qQ) (hl:q8 l) (h: ∀y∈l,N9 y):D7 l l=some true:=by
 unfold q8 at hl;unfold D7;rw[if_neg (by simp),a63 l (fun i hi=>by
  have hy:=h l[i] (aSa hi);unfold UZ;rw[if_pos (tO hi),if_pos (sA hi),if_pos (sA hi),y5 (t:=sK) hi];rw[aMH _ hy,aRf,NA _ hy.1,NA _ hy.2.1,VU _ hy.2.2,if_neg (by simp [val]),if_pos (tC (by omega))]) (by
  unfold UZ;rw[if_neg (vI _)])]
 rfl
def vF (x:UInt8) (s:List UInt8):List UInt8:=if s.getLast? =some x then s.dropLast else s
def AW (x:UInt8) (s:List UInt8):List UInt8:=if s.head? =some x then s.drop 1 else s
theorem a64 (x:UInt8) (s:List UInt8):(vF x s).length<=s.length:=by
 unfold vF;split
 ·rw[List.length_dropLast];omega
 ·exact Nat.le_refl _
theorem aMI (x:UInt8) (s:List UInt8):(AW x s).length<=s.length:=by
 unfold AW;split
 ·rw[aRy];omega
 ·exact Nat.le_refl _
theorem DH (s:List UInt8) (x:UInt8):((decide ((([x]:List UInt8).length:Int)<=(s.length:Int)))&&(decide ((q7 s (0:Int) (([x]:List UInt8).length:Int))=([x]:List UInt8))))=decide (s.head? =some x):=by
 cases s with
 |nil=>simp
 |cons b t=>
  rw[show q7 (b::t) (0:Int) (([x]:List UInt8).length:Int)=[b] from rfl];rw[show decide ((([x]:List UInt8).length:Int)<=((b::t).length:Int))=true by simp<;>omega,Bool.true_and]
  simp
theorem aMJ (s:List UInt8) (x:UInt8):((decide ((([x]:List UInt8).length:Int)<=(s.length:Int)))&&(decide ((q7 s ((s.length:Int)- (([x]:List UInt8).length:Int)) (s.length:Int))=([x]:List UInt8))))=decide (s.getLast? =some x):=by
 rcases List.eq_nil_or_concat s with rfl|⟨t,b,rfl⟩
 ·simp
 ·rw[List.concat_eq_append];have hl:(t++[b]).length=t.length+1:=by simp
  have hc:q7 (t++[b]) (((t++[b]).length:Int)- (([x]:List UInt8).length:Int)) ((t++[b]).length:Int)=[b]:=by
   unfold q7;rw[hl,show (((t.length+1:Nat):Int)- (([x]:List UInt8).length:Int)).toNat=t.length by simp,show ((t.length+1:Nat):Int).toNat-t.length=1 by omega,aSZ];rfl
  rw[hc,show decide ((([x]:List UInt8).length:Int)<=((t++[b]).length:Int))=true by simp<;>omega,Bool.true_and]
  simp
theorem aFb (s:List UInt8) (x:UInt8) (n:Int) (hn:(x.toNat:Int)=n):((decide ((0:Int)<(s.length:Int)))&&(decide ((qC s ((s.length:Int)- (1:Int)))=n)))=decide (s.getLast? =some x):=by
 subst hn;rcases List.eq_nil_or_concat s with rfl|⟨t,b,rfl⟩
 ·simp
 ·rw[List.concat_eq_append];have hl:(t++[b]).length=t.length+1:=by simp
  have hb:qC (t++[b]) (((t++[b]).length:Int)-1)=(b.toNat:Int):=by
   rw[hl,show ((t.length+1:Nat):Int)-1=(t.length:Int) by omega,zI (by omega)];simp
  rw[hb,show decide ((0:Int)<((t++[b]).length:Int))=true by simp<;>omega,Bool.true_and]
  rw[aSz,aRk,aRk,DF];simp
theorem a65 {s:List UInt8}{x:UInt8}(h:s.getLast? =some x):1<=s.length:=by
 cases s with
 |nil=>simp at h
 |cons b t=>simp
theorem a66 {s:List UInt8}{x:UInt8}(h:s.head? =some x):1<=s.length:=by
 cases s with
 |nil=>simp at h
 |cons b t=>simp
theorem a67 {s:List UInt8}(h:1<=s.length):q7 s 0 ((s.length:Int)-1)=s.dropLast:=by
 rw[show ((s.length:Int)-1)=((s.length-1:Nat):Int) by omega,MZ,List.dropLast_eq_take]
theorem a68 {s:List UInt8}(hs:q8 s) (x:UInt8):CC s [x]=some (vF x s):=by
 unfold q8 at hs;have h1:((([x]:List UInt8).length:Nat):Int)=1:=rfl;unfold CC MH PN;rw[aMJ,h1,if_pos (fun _=>by unfold pP;omega),if_pos (fun hh=>by simp only[aS0,aRk] at hh;omega),aRf];unfold vF;by_cases h:s.getLast? =some x
 ·have:=a65 h;rw[if_pos (by simpa using h),if_pos h,if_pos (by unfold pP;omega),if_pos (by omega),a67 this];rfl
 ·rw[if_neg (by simpa using h),if_neg h];rfl
theorem aFc (s:List UInt8) (x:UInt8):FU s [x]=some ():=by
 have h1:((([x]:List UInt8).length:Nat):Int)=1:=rfl;unfold FU;rw[h1,if_pos (fun hh=>by simp only[aS0,aRk] at hh;omega)]
theorem a69 {s:List UInt8}:q7 s 1 (s.length:Int)=s.drop 1:=AU (k:=1)
theorem aMK (s:List UInt8) (x:UInt8):JX s [x]=some (AW x s):=by
 have h1:((([x]:List UInt8).length:Nat):Int)=1:=rfl;unfold JX MA;rw[DH,aFc,aRf];unfold AW;by_cases h:s.head? =some x
 ·have:=a66 h;rw[if_pos (by simpa using h),if_pos h,h1,if_pos (by omega),a69];rfl
 ·rw[if_neg (by simpa using h),if_neg h];rfl
theorem aML (s:List UInt8) (x:UInt8):EE s [x]=some (AW x s,decide (s.head? =some x)):=by
 have h1:((([x]:List UInt8).length:Nat):Int)=1:=rfl;unfold EE JR;rw[DH,aFc,aRf];unfold AW;by_cases h:s.head? =some x
 ·have:=a66 h;rw[if_neg (by simpa using h),if_pos h,h1,if_pos (by omega),a69,aSd h];rfl
 ·rw[if_pos (by simpa using h),if_neg h,decide_eq_false h];rfl
theorem GD (s:List UInt8) (x:UInt8):EA s [x]=some ():=by
 have h1:((([x]:List UInt8).length:Nat):Int)=1:=rfl;unfold EA;rw[h1,if_pos (fun hh=>by simp only[aS0,aRk] at hh;omega)]
theorem NB (s:List UInt8) (x y:UInt8):EA s [x,y]=some ():=by
 have h1:((([x,y]:List UInt8).length:Nat):Int)=2:=rfl;unfold EA;rw[h1,if_pos (fun hh=>by simp only[aS0,aRk] at hh;omega)]
def GE (b:UInt8):Bool:=[32,9].contains b
theorem a7a {p:UInt8->Bool}: ∀(l:List UInt8),l.drop (l.takeWhile p).length=l.dropWhile p
 |[]=>rfl
 |b::t=>by
  rw[List.takeWhile_cons,List.dropWhile_cons];cases h:p b with
  |true=>simp only[aSV,aRj,aS2];exact a7a t
  |false=>rfl
theorem aMM (b:UInt8):(decide ((b.toNat:Int)=(32:Int))||decide ((b.toNat:Int)=(9:Int)))=GE b:=by
 have h1:decide ((b.toNat:Int)=(32:Int))=decide (b=32):=by
  rw[aSz,aRk,aRk];exact DF (a:=b) (b:=32)
 have h2:decide ((b.toNat:Int)=(9:Int))=decide (b=9):=by
  rw[aSz,aRk,aRk];exact DF (a:=b) (b:=9)
 rw[h1,h2];unfold GE;rw[aSz];simp
theorem aFd {l:List UInt8}(hl:q8 l): ∀(n j:Nat),j+n=l.length->qM (PG l) (j:Int)=some ((j+((l.drop j).takeWhile GE).length:Nat):Int)
 |0,j,hj=>by
  have:j=l.length:=by omega
  subst this;rw[aSb];refine uV ?_;unfold PG;rw[if_pos (fun hh=>by simp at hh),if_pos (fun hh=>by simp at hh),if_neg (by simp)];rfl
 |n+1,j,hj=>by
  have hlt:j<l.length:=by omega
  unfold q8 at hl;have hst:PG l (j:Int)=if GE l[j]=true then some (.inl ((j+1:Nat):Int)) else some (.inr (j:Int)):=by
   unfold PG;rw[if_pos (fun _=>sA hlt),if_pos (fun _=>sA hlt),zI hlt,aMM,tO hlt,Bool.true_and,if_pos (tC (by omega))];rfl
  rw[aRC hlt,List.takeWhile_cons];cases hb:GE l[j] with
  |true=>
   rw[BF (hst.trans (if_pos hb)),aFd hl n (j+1) (by omega)];simp only[aSV,aRj];congr 1;omega
  |false=>
   rw[uV (hst.trans (if_neg (by rw[hb];exact aRV)))];rfl
def DI (line:List UInt8):List UInt8:=(vF 10 line).dropWhile GE
theorem aMN (p:UInt8->Bool) (l:List UInt8):(l.dropWhile p).length<=l.length:=by
 rw[<-a7a,aRy];omega
theorem aMO (line:List UInt8):(DI line).length<=line.length:=aSe (aMN _ _) (a64 _ _)
theorem aMP (p:UInt8->Bool) (l:List UInt8):(l.takeWhile p).length<=l.length:=(List.takeWhile_sublist p).length_le
theorem NC {line:List UInt8}(hl:q8 line):UK line=some (DI line):=by
 have hl':=hl;unfold q8 at hl';have hc:=a64 10 line;unfold UK;rw[if_pos (fun hh=>by unfold pP;omega),if_pos (fun hh=>by simp only[aS0,aRk] at hh;omega),aFb line 10 10 rfl];have hb:(if decide (line.getLast? =some 10)=true then(if pP ((line.length:Int)- (1:Int)) then(if 0<=(0:Int)/\(0:Int)<=((line.length:Int)- (1:Int))/\((line.length:Int)- (1:Int))<=(line.length:Int) then some (q7 line (0:Int) ((line.length:Int)- (1:Int))) else none) else none) else some line)=some (vF 10 line):=by
  unfold vF;by_cases h:line.getLast? =some 10
  ·have:=a65 h;rw[if_pos (by simpa using h),if_pos h,if_pos (by unfold pP;omega),if_pos (by omega),a67 this]
  ·rw[if_neg (by simpa using h),if_neg h]
 rw[hb];have hf:q8 (vF 10 line):=by unfold q8;omega
 have hlp:=aFd hf (vF 10 line).length 0 (by omega);rw[aSk,aRR] at hlp;have htw:=aMP GE (vF 10 line);unfold rL;rw[aRf,show ((0:Nat):Int)=(0:Int) from rfl] at*;rw[hlp,aRf,if_pos (by omega),AU,a7a];rfl
def vP (s:List UInt8):List UInt8×Bool:=((yG 1 s).1,decide ((yG 1 s).2.2=0)&&sD (yG 1 s).1)
theorem a7b (s:List UInt8):(vP s).1.length<=s.length:=a60 1 s
theorem aMQ:vP []=([],true):=by rfl
theorem KH {s:List UInt8}(hs:s.length<=4000000000):DC s=some (vP s):=by
 have hf:q8 (yG 1 s).1:=by have:=a60 1 s;unfold q8;omega
 unfold DC;rw[aMh (by decide) (by decide) (by unfold q8;omega),aRf,(ID _ hf).1,if_pos vO,(ID _ hf).2];rfl
theorem QV {s:List UInt8}(hs:s.length<=4000000000):CF s=some (vP s):=by
 have hf:q8 (yG 1 s).1:=by have:=a60 1 s;unfold q8;omega
 unfold CF;rw[aMi (by decide) (by decide) (by unfold q8;omega),aRf,N2 _ hf,if_pos vO];rfl
def ET (s:List UInt8):Option (List UInt8×List UInt8):=(sE 61 s).map fun k=>(vF 32 (s.take k),AW 32 (s.drop (k+1)))
def aFe:Option (List UInt8×List UInt8)->List UInt8×List UInt8×Bool
 |none=>([],[],false)
 |some p=>(p.1,p.2,true)
theorem aMR {s:List UInt8}{p:List UInt8×List UInt8}(h:ET s=some p):p.1.length<=s.length/\p.2.length<=s.length:=by
 unfold ET at h;cases hk:sE 61 s with
 |none=>rw[hk] at h;cases h
 |some k=>
  rw[hk] at h;cases h;have h1:=a64 32 (s.take k);have h2:=aMI 32 (s.drop (k+1));rw[aRH] at h1;rw[aRy] at h2;exact⟨by show (vF 32 (s.take k)).length<=_;omega,by show (AW 32 (s.drop (k+1))).length<=_;omega⟩
theorem a7c {s:List UInt8}(hs:q8 s):MI s=some (aFe (ET s)):=by
 have hE:HU 1 s 61=some (AV (sE 61 s)):=aEQ (by decide) (by decide) s 61 hs;have hs':=hs;unfold q8 at hs';unfold MI;rw[hE,aRf];unfold ET;cases hk:sE 61 s with
 |none=>rfl
 |some k=>
  have hlt:=QS s.length s k (Nat.le_refl _) hk;show (if decide ((k:Int)<0)=true then _ else _)=_;have ht:q7 s 0 (AV (some k))=s.take k:=MZ;have hd:q7 s (AV (some k)+1) (s.length:Int)=s.drop (k+1):=AU (k:=k+1);have he:AV (some k)=(k:Int):=rfl;rw[ht,hd,he,if_neg (by simp<;>omega),if_pos (by omega),if_pos (by unfold pP;omega),if_pos (by omega)]
  have hlk:(s.take k).length=k:=by rw[aRH];omega
  rw[if_pos (fun hh=>by unfold pP;omega),if_pos (fun hh=>by simp only[aS0,aRk] at hh;omega),aFb (s.take k) 32 32 rfl];have hb:(if decide ((s.take k).getLast? =some 32)=true then(if pP (((s.take k).length:Int)- (1:Int)) then(if 0<=(0:Int)/\(0:Int)<=(((s.take k).length:Int)- (1:Int))/\(((s.take k).length:Int)- (1:Int))<=((s.take k).length:Int) then some (q7 (s.take k) (0:Int) (((s.take k).length:Int)- (1:Int))) else none) else none) else some (s.take k))=some (vF 32 (s.take k)):=by
   unfold vF;by_cases h:(s.take k).getLast? =some 32
   ·have:=a65 h;rw[if_pos (by simpa using h),if_pos h,if_pos (by unfold pP;omega),if_pos (by omega),a67 this]
   ·rw[if_neg (by simpa using h),if_neg h]
  rw[hb];unfold rL;rw[aRf,GD,aRf,DH];unfold AW;by_cases h:(s.drop (k+1)).head? =some 32
  ·have:=a66 h;rw[if_pos (by simpa using h),if_pos (by omega),a69,Option.map_some,if_pos h];rfl
  ·rw[if_neg (by simpa using h),Option.map_some,if_neg h];rfl
def sB (f:Int) (k v:List UInt8) (bad:Bool):Int×List UInt8×List UInt8:=
 if f=0 then(1,[],[])
 else if f=1 then(2,[],[])
 else if f=8 then(9,[],[])
 else if bad=true then(0,[],[])
 else if f=2 then(3,[],v)
 else if f=3 then(if vE v=true then(4,[],v) else(0,[],[]))
 else if f=4 then(5,[],v)
 else if f=5 then(if 0<=wO v then(6,[],v) else(0,[],[]))
 else if f=6 then(if sU v=true then(7,[],v) else(0,[],[]))
 else if f=7 then(if sU k=true then(8,k,v) else(0,[],[]))
 else if f=9 then(if k=[]\/200<k.length then(0,[],[]) else(10,k,v))
 else(0,[],[])
theorem aFf {f:Int}{k v:List UInt8}(h0:f≠0) (h1:f≠1) (h8:f≠8):sB f k v true=(0,[],[]):=by
 unfold sB;rw[if_neg h0,if_neg h1,if_neg h8,if_pos rfl]
theorem ND {k v:List UInt8}{bad:Bool}:sB 10 k v bad=(0,[],[]):=by
 unfold sB;rw[if_neg (by decide),if_neg (by decide),if_neg (by decide)];split
 ·rfl
 ·rw[if_neg (by decide),if_neg (by decide),if_neg (by decide),if_neg (by decide),if_neg (by decide),if_neg (by decide),if_neg (by decide)]
theorem aMS (v:List UInt8):D9 wN v=some (decide (0<=wO v)):=by
 unfold D9;rw[(aEB v).2];rfl
theorem VV {b:Bool}(h: ¬b=true):b=false:=by simpa using h
def vQ (a:List UInt8):Int×List UInt8:=
 if a=[33,116,97,103] then(3,[]) else if a=[33,115,111,117,114,99,101] then(4,[]) else if a=[33,115,116,97,116,101] then(5,[]) else if a=[33,102,108,97,103] then(6,[]) else if tQ 33 58 a=true then(7,a.drop 2) else(10,[])
theorem QW {x y:UInt8}{s:List UInt8}(h:tQ x y s=true): ∃r,s=x::y::r:=by
 match s,h with
 |[],h=>exact absurd h (by simp [tQ])
 |[_],h=>exact absurd h (by simp [tQ])
 |b::c::r,h=>
  have:b=x/\c=y:=by simpa[tQ] using h
  exact⟨r,by rw[this.1,this.2]⟩
theorem aFg {k v:List UInt8}:sB 7 k v false=if sU k=true then(8,k,v) else(0,[],[]):=rfl
theorem aFh {k v:List UInt8}:sB 9 k v false=if k=[]\/200<k.length then(0,[],[]) else(10,k,v):=rfl
theorem aMT {t v:List UInt8}:BM (33::t) v=some (sB (vQ (33::t)).1 (vQ (33::t)).2 v false):=by
 unfold BM;rw[if_neg (by simp),a6G,if_pos vO];have hst:D9 ([([110,101,119]:List UInt8),([102,117,122,122,121]:List UInt8),([116,114,97,110,115,108,97,116,101,100]:List UInt8),([114,101,118,105,101,119,101,100]:List UInt8),([111,98,115,111,108,101,116,101]:List UInt8)]:List (List UInt8)) v=some (decide (0<=wO v)):=aMS v;rw[hst,if_pos vO,VE,if_pos vO,a6X,aRf,IE];rw[if_pos (fun hh=>by obtain⟨r,hr⟩:=QW (by simpa using hh);rw[hr];simp only[aRj];omega),VE,if_pos vO];rw[C2,C2,C2,C2];by_cases h1:t=[116,97,103]
 ·subst h1;cases hT:vE v<;>simp [vQ,sB,tQ,qC,hT]
 by_cases h2:t=[115,111,117,114,99,101]
 ·subst h2;simp [vQ,sB]
 by_cases h3:t=[115,116,97,116,101]
 ·subst h3;by_cases hT:0<=wO v<;>simp [vQ,sB,hT,tQ,qC]
 by_cases h4:t=[102,108,97,103]
 ·subst h4;cases hT:sU v<;>simp [vQ,sB,tQ,qC,hT]
 have n1: ¬(33::t:List UInt8)=[33,116,97,103]:=by simpa using h1
 have n2: ¬(33::t:List UInt8)=[33,115,111,117,114,99,101]:=by simpa using h2
 have n3: ¬(33::t:List UInt8)=[33,115,116,97,116,101]:=by simpa using h3
 have n4: ¬(33::t:List UInt8)=[33,102,108,97,103]:=by simpa using h4
 unfold vQ;rw[decide_eq_false n1,decide_eq_false n2,decide_eq_false n3,decide_eq_false n4,if_neg n1,if_neg n2,if_neg n3,if_neg n4];simp only[aTd,aSf,aTr];by_cases h5:tQ 33 58 (33::t)=true
 ·obtain⟨r,hr⟩:=QW h5;have hc:q7 (33::t) 2 ((33::t).length:Int)=(33::t).drop 2:=AU (k:=2);rw[h5,hc,Bool.true_and,if_pos rfl];cases hN:sU ((33::t).drop 2) with
  |true=>
   rw[if_pos rfl,if_pos (by rw[hr];simp only[aRj];omega)];show some ((8:Int),(33::t).drop 2,v)=some (sB 7 ((33::t).drop 2) v false);rw[aFg,if_pos hN]
  |false=>
   rw[if_neg aRV,if_pos (by simp only[aRj];omega),if_pos (by rfl)];show some ((0:Int),[],[])=some (sB 7 ((33::t).drop 2) v false);rw[aFg,if_neg (by rw[hN];exact aRV)]
 ·rw[VV h5,aTd,if_neg aRV,if_neg aRV,if_pos (by simp only[aRj];omega),if_pos (by rfl),ND]
theorem aMU {c:UInt8}{u v:List UInt8}(hc:c≠33) (hl:(c::u).length<=4000000000):BM (c::u) v=some (sB 9 (vP (c::u)).1 v (!(vP (c::u)).2)):=by
 unfold BM;have hn: ∀w:List UInt8,decide ((c::u:List UInt8)=33::w)=false:=fun w=>decide_eq_false (fun h=>hc (by injection h));have hb:tQ 33 58 (c::u)=false:=by
  cases h:tQ 33 58 (c::u) with
  |false=>rfl
  |true=>obtain⟨r,hr⟩:=QW h;exact absurd (by injection hr) hc
 have h33:decide (qC (c::u) 0=33)=false:=by
  refine decide_eq_false fun h=>hc ?_;have:(c.toNat:Int)=((33:UInt8).toNat:Int):=h;exact DF.1 this
 rw[if_neg (by simp),a6G,if_pos vO];simp only[hn,aTd,aSf,aTr];rw[if_pos (fun h=>by cases h),if_pos (fun h=>by cases h),a6X,aRf,IE,hb];rw[if_pos (fun h=>by cases h),if_pos (fun h=>by cases h),aTd,if_neg aRV,if_pos (by simp only[aRj];omega),h33,if_neg aRV,QV hl,aRf];cases hb2:(vP (c::u)).2 with
 |false=>rfl
 |true=>
  simp only[Bool.not_true,Bool.false_or,aSu,aRk];rw[aFh];by_cases hk:(vP (c::u)).1=[]\/200<(vP (c::u)).1.length
  ·rw[if_pos hk,if_pos (by rcases hk with h|h;exact .inl h;exact .inr (by omega))]
  ·rw[if_neg hk,if_neg (fun h=>hk (by rcases h with h|h;exact .inl h;exact .inr (by omega)))]
theorem aMV {x b:UInt8}(h:b≠x) (t:List UInt8): ∃t',vF x (b::t)=b::t':=by
 unfold vF;split
 ·rename_i hl;cases t with
  |nil=>simp at hl;exact absurd hl h
  |cons c r=>exact⟨(c::r).dropLast,rfl⟩
 ·exact⟨t,rfl⟩
theorem aMW {x:UInt8}(b:UInt8) (t:List UInt8):vF x (b::t)=[]\/∃t',vF x (b::t)=b::t':=by
 unfold vF;split
 ·cases t with
  |nil=>exact .inl rfl
  |cons c r=>exact .inr ⟨(c::r).dropLast,rfl⟩
 ·exact .inr ⟨t,rfl⟩
theorem aMX {b:UInt8}{u:List UInt8}(h:sE 61 (b::u)=some 0):b=61:=by
 by_cases h1:b=61
 ·exact h1
 ·exfalso;by_cases h2:b=92
  ·rw[QQ h1 h2] at h;cases h3:sE 61 (u.drop 1)<;>rw[h3] at h<;>simp at h
  ·rw[KC h1 h2] at h;cases h3:sE 61 u<;>rw[h3] at h<;>simp at h
theorem aMY (a:List UInt8):(vQ a).1≠0/\(vQ a).1≠1/\(vQ a).1≠8/\0<=(vQ a).1/\(vQ a).1<=10:=by
 unfold vQ
 repeat' split
 all_goals (dsimp only;decide)
theorem aMZ (a:List UInt8):(vQ a).2.length<=a.length:=by
 unfold vQ
 repeat' split
 all_goals simp
theorem aFi {s a v0:List UInt8}(h:MI s=some (a,v0,true)) (hv:v0.length<=4000000000):K5 s=some ((vQ a).1,(vQ a).2,(vP v0).1,!(vP v0).2):=by
 unfold K5;rw[h,aRf,if_neg (show¬(!true)=true by decide),KH hv,aRf,NB,aRf,IE];unfold vQ;by_cases h1:a=[33,116,97,103]
 ·rw[if_pos (by simpa using h1),if_pos h1]
 rw[if_neg (by simpa using h1),if_neg h1];by_cases h2:a=[33,115,111,117,114,99,101]
 ·rw[if_pos (by simpa using h2),if_pos h2]
 rw[if_neg (by simpa using h2),if_neg h2];by_cases h3:a=[33,115,116,97,116,101]
 ·rw[if_pos (by simpa using h3),if_pos h3]
 rw[if_neg (by simpa using h3),if_neg h3];by_cases h4:a=[33,102,108,97,103]
 ·rw[if_pos (by simpa using h4),if_pos h4]
 rw[if_neg (by simpa using h4),if_neg h4];by_cases h5:tQ 33 58 a=true
 ·obtain⟨r,hr⟩:=QW h5;rw[if_pos h5,if_pos h5,if_pos (by rw[hr];simp only[aRj];omega)];rw[show q7 a 2 (a.length:Int)=a.drop 2 from AU (k:=2)]
 ·rw[if_neg h5,if_neg h5]
theorem aM0 {line:List UInt8}(hl:line.length<=4000000000): ∃(f:Int) (k v:List UInt8) (bad:Bool),u7 line=some (f,k,v,bad)/\AS (DI line)=some (sB f k v bad)/\k.length<=4000000000/\v.length<=4000000000/\0<=f/\f<=10:=by
 have hcl:=aMO line;unfold u7 AS;rw[NC (by unfold q8;omega),aRf];generalize DI line=s at hcl;have hs:s.length<=4000000000:=by omega
 cases s with
 |nil=>exact⟨0,[],[],false,rfl,rfl,by decide,by decide,by decide,by decide⟩
 |cons b u=>
  rw[if_neg (show¬decide ((b::u:List UInt8)=[])=true by simp),if_neg (show¬decide ((b::u:List UInt8)=[])=true by simp),NB,aRf,a6X,IE];by_cases hp:tQ 35 46 (b::u)=true
  ·obtain⟨r,hr⟩:=QW hp;rw[if_pos hp,if_pos hp,hr,if_neg (show¬decide ((35::46::r:List UInt8)=[37,37])=true by simp)];rw[hr] at hs;have hc2:q7 (35::46::r) 2 ((35::46::r).length:Int)=r:=AU (k:=2);rw[if_pos (show 0<=(2:Int)/\(2:Int)<=((35::46::r).length:Int)/\((35::46::r).length:Int)<=((35::46::r).length:Int) by simp only[aRj];omega),hc2,aML];cases r with
   |nil=>
    refine⟨2,[],[],false,if_pos (by simp),?_,by decide,by decide,by decide,by decide⟩;show ((CF []).bind _)=_;rw[QV (by decide),aRf,aMQ];rfl
   |cons c w=>
    have hb2:qC (35::46::c::w) 2=(c.toNat:Int):=rfl;rw[if_neg (show¬decide ((35::46::c::w:List UInt8)=[35,46])=true by simp),if_pos (show 0<=(2:Int)/\(2:Int)<((35::46::c::w).length:Int) by simp only[aRj];omega),hb2];by_cases h32:c=32
    ·subst h32;have hc3:q7 (35::46::32::w) 3 ((35::46::32::w).length:Int)=w:=AU (k:=3);simp only[aRj] at hs;have hw:w.length<=4000000000:=by omega
     refine⟨2,[],(vP w).1,!(vP w).2,?_,?_,by decide,by have:=a7b w;omega,by decide,by decide⟩
     ·rw[if_neg (by decide),if_pos (show 0<=(3:Int)/\(3:Int)<=((35::46::32::w).length:Int)/\((35::46::32::w).length:Int)<=((35::46::32::w).length:Int) by simp only[aRj];omega),hc3,KH hw];rfl
     ·show ((CF w).bind _)=_;rw[QV hw,aRf];cases hb2:(vP w).2 with
      |false=>rfl
      |true=>rfl
    ·have hcb:AW 32 (c::w)=c::w:=by unfold AW;rw[if_neg (by simpa using h32)]
     refine⟨10,[],[],false,?_,?_,by decide,by decide,by decide,by decide⟩
     ·rw[if_pos];simp only[aRK,aRU];intro h;exact h32 (DF.1 (show (c.toNat:Int)=((32:UInt8).toNat:Int) from h))
     ·simp only[aRj] at hs;rw[aRf,aRf];rw[hcb,QV (by simp only[aRj];omega),aRf,ND,if_pos];rw[aSu];right;simp [h32]
  ·rw[if_neg hp,if_neg hp,GD,aRf,DH,if_pos (show 0<=(0:Int)/\(0:Int)<((b::u).length:Int) by simp only[aRj];omega)];by_cases h35:b=35
   ·subst h35;refine⟨1,[],[],false,if_pos (by simp),?_,by decide,by decide,by decide,by decide⟩;rw[if_neg (show¬decide ((35::u:List UInt8)=[37,37])=true by simp),if_pos (show decide (qC (35::u) 0=35)=true from rfl)];rfl
   ·rw[if_neg (by simpa using h35),GD,aRf,DH];have hbyte: ¬decide (qC (b::u) 0=35)=true:=by
     simp only[aRk];intro h;exact h35 (DF.1 (show (b.toNat:Int)=((35:UInt8).toNat:Int) from h))
    rw[if_neg hbyte];have hfs:q8 (b::u):=by unfold q8;omega
    have hE:HY 1 (b::u) 61=some (AV (sE 61 (b::u))):=by rw[aL3];exact aEQ (by decide) (by decide) (b::u) 61 hfs
    rw[hE,aRf];by_cases hpc:(b::u:List UInt8)=[37,37]
    ·rw[hpc];exact⟨8,[],[],false,rfl,rfl,by decide,by decide,by decide,by decide⟩
    rw[if_neg (show¬decide ((b::u:List UInt8)=[37,37])=true by simpa using hpc),if_neg (show¬decide ((b::u:List UInt8)=[37,37])=true by simpa using hpc)];have hsep:=a7c hfs;cases hk:sE 61 (b::u) with
    |none=>
     have hs0:ET (b::u)=none:=by unfold ET;rw[hk];rfl
     rw[hs0] at hsep;refine⟨10,[],[],false,?_,?_,by decide,by decide,by decide,by decide⟩
     ·by_cases h33:b=33
      ·rw[if_pos (by simpa using h33)];unfold K5;rw[hsep];rfl
      ·rw[if_neg (by simpa using h33),hsep];rfl
     ·rw[ND];rfl
    |some k=>
     have hlt:=QS (b::u).length (b::u) k (Nat.le_refl _) hk;have hs1:ET (b::u)=some (vF 32 ((b::u).take k),AW 32 ((b::u).drop (k+1))):=by unfold ET;rw[hk];rfl
     have hlen:=aMR hs1;rw[hs1] at hsep;have ht:q7 (b::u) 0 (AV (some k))=(b::u).take k:=MZ;have hd:q7 (b::u) (AV (some k)+1) ((b::u).length:Int)=(b::u).drop (k+1):=AU (k:=k+1);have htk:q8 ((b::u).take k):=by unfold q8;rw[aRH];omega
     rw[aRf,ht,hd,show AV (some k)=(k:Int) from rfl,if_neg (show¬decide ((k:Int)<0)=true by simp),if_pos (show 0<=(0:Int)/\(0:Int)<=(k:Int)/\(k:Int)<=((b::u).length:Int) by omega)];rw[a68 htk,aRf,if_pos (show pP ((k:Int)+1) by unfold pP;omega),if_pos (show 0<=((k:Int)+1)/\((k:Int)+1)<=((b::u).length:Int)/\((b::u).length:Int)<=((b::u).length:Int) by omega),aMK,aRf];have hany:vF 32 ((b::u).take k)=[]\/∃t',vF 32 ((b::u).take k)=b::t':=by
      cases k with
      |zero=>exact .inl rfl
      |succ k=>exact aMW b (u.take k)
     have hbang:b=33->∃t',vF 32 ((b::u).take k)=33::t':=by
      rintro rfl;cases k with
      |zero=>exact absurd (aMX hk) (by decide)
      |succ k=>exact aMV (by decide) _
     generalize vF 32 ((b::u).take k)=a at hsep hlen hany hbang⊢;generalize AW 32 ((b::u).drop (k+1))=v0 at hsep hlen⊢;dsimp only at hlen;have hv0:v0.length<=4000000000:=by omega
     have hlv:=a7b v0;rw[QV hv0,aRf];by_cases h33:b=33
     ·obtain⟨t',rfl⟩:=hbang h33;have hf:=aMY (33::t');have hk2:=aMZ (33::t');refine⟨(vQ (33::t')).1,(vQ (33::t')).2,(vP v0).1,!(vP v0).2,?_,?_,by omega,by omega,hf.2.2.2.1,hf.2.2.2.2⟩
      ·rw[if_pos (by simpa using h33),aFi hsep hv0];rfl
      ·cases hb2:(vP v0).2 with
       |false=>rw[if_pos (by rfl),show (!false)=true from rfl,aFf hf.1 hf.2.1 hf.2.2.1]
       |true=>
        rw[if_neg (by decide),aMT,aRf];rfl
     ·rw[if_neg (by simpa using h33),hsep,aRf];rcases hany with rfl|⟨t',rfl⟩
      ·refine⟨10,[],[],false,rfl,?_,by decide,by decide,by decide,by decide⟩;rw[ND];cases hb2:(vP v0).2 with
       |false=>rfl
       |true=>rw[if_neg (by decide),show BM [] (vP v0).1=some (0,[],[]) by unfold BM;rfl];rfl
      ·have ha:(b::t').length<=4000000000:=by omega
       have hla:=a7b (b::t');refine⟨9,(vP (b::t')).1,(vP v0).1,(!(vP (b::t')).2)||(!(vP v0).2),?_,?_,by omega,by omega,by decide,by decide⟩
       ·unfold aFe;dsimp only;rw[if_neg (by simp),KH ha,aRf,KH hv0,aRf]
       ·cases hb2:(vP v0).2 with
        |false=>rw[if_pos (by rfl),show (!false)=true from rfl,Bool.or_true,aFf (by decide) (by decide) (by decide)]
        |true=>
         rw[if_neg (by decide),aMU h33 ha,aRf,show (!true)=false from rfl,Bool.or_false]
theorem aM1 {s:List UInt8}{a i:Nat}(hai:a≤i) (hi:i<s.length) (hno: ∀j (h:j<s.length),a≤j→j<i→s[j]≠10) (h10:s[i]=10):((s.drop a).findIdx? fun b=>decide (b=10))=some (i-a):=by
  rw[aRT];refine⟨by rw[aRy];omega,?_,fun j hj=> ?_⟩
  · rw[List.getElem_drop]
    simp only[aRk];rw[←h10];congr 1;omega
  · rw[List.getElem_drop]
    simp only[aRk];exact hno (a+j) (by omega) (by omega) (by omega)
theorem aM2 {s:List UInt8}{a:Nat}(hno: ∀j (h:j<s.length),a≤j→s[j]≠10):((s.drop a).findIdx? fun b=>decide (b=10))=none:=by
  rw[aSn];intro x hx;obtain⟨j,hj,rfl⟩:=aS1 hx;rw[List.getElem_drop];simp only[aRU];rw[aRy] at hj;exact hno (a+j) (by omega) (by omega)
theorem aFj {s:List UInt8}{a i:Nat}(hai:a≤i) (hi:i<s.length) (hno: ∀j (h:j<s.length),a≤j→j<i→s[j]≠10) (h10:s[i]=10):sZ s a=i+1:=by
  unfold sZ;rw[a6Y,aM1 hai hi hno h10];rw[show AV (some (i-a))=((i-a:Nat):Int) from rfl,if_pos (by omega),aRY];omega
theorem aFk {s:List UInt8}{a:Nat}(hno: ∀j (h:j<s.length),a≤j→s[j]≠10):sZ s a=s.length:=by
  unfold sZ;rw[a6Y,aM2 hno];exact if_neg (by decide)
theorem GF {s:List UInt8}{n i:Nat}(h:s.length≤i):t6 s n i=[]:=by
  cases n with
  |zero=>rfl
  |succ n=>rw[t6,if_neg (by omega)]
theorem aFl {s:List UInt8}{a b:Nat}:q7 s (a:Int) (b:Int)=(s.drop a).take (b-a):=by
  unfold q7;rw[aRY,aRY]
def aFm (s:List UInt8) (q:List (List UInt8)×Int):Option (List (List UInt8)):=
  if (decide (q.2<(s.length:Int)))=true then
   if 0≤q.2∧q.2≤(s.length:Int)∧(s.length:Int)≤(s.length:Int) then
    if (q.1.length+([(q7 s q.2 (s.length:Int))]:List (List UInt8)).length)*16≤140737488355328 then
     some ((q.1++([(q7 s q.2 (s.length:Int))]:List (List UInt8))))
    else none
   else none
  else
   some (q.1)
theorem a7d {s:List UInt8}(hs:s.length≤4000000000): ∀(m i a n:Nat) (out:List (List UInt8)),i+m=s.length→a≤i→s.length≤n+a→out.length≤a→(∀j (h:j<s.length),a≤j→j<i→s[j]≠10)→
    rL (qM (JQ s) (out,(a:Int),(i:Int))) (aFm s)=some (out++(t6 s n a).map (·.2))
  | 0,i,a,n,out,hm,hai,hn,ho,hno=>by
    have:i=s.length:=by omega
    subst this;rw[uV (r:=(out,(a:Int))) (by unfold JQ;dsimp only;rw[if_neg (vI _)])];unfold rL aFm;rw[aRf];dsimp only;by_cases ha:a<s.length
    · obtain⟨n,rfl⟩: ∃n',n=n'+1:=⟨n-1,by omega⟩
      have hlt:=aFk (s:=s) (a:=a) (fun j h h1=>hno j h h1 h);rw[if_pos (by simpa using ha),if_pos (by omega),if_pos (by simp only[aRj,aRs];omega),t6,if_pos ha,hlt,GF (Nat.le_refl _),aFl];rfl
    ·rw[if_neg (by simp;omega),GF (by omega),List.map_nil,List.append_nil]
  | m+1,i,a,n,out,hm,hai,hn,ho,hno=>by
    have hi:i<s.length:=by omega
    by_cases h10:s[i]=10
    · have hst:JQ s (out,(a:Int),(i:Int))=some (.inl (out++[(s.drop a).take (i+1-a)],((i+1:Nat):Int),((i+1:Nat):Int))):=by
        unfold JQ;dsimp only;rw[if_pos (tO hi),if_pos (sA hi),zI hi,h10,if_pos (by rfl),if_pos (tC (by omega)),if_pos (by omega),if_pos (by simp only[aRj,aRs];omega)];rw[show ((i:Int)+1)=((i+1:Nat):Int) by omega,aFl,if_pos (show pP ((i+1:Nat):Int) by unfold pP;omega),if_pos (show pP ((i+1:Nat):Int) by unfold pP;omega)]
      have hlt:=aFj hai hi hno h10;obtain⟨n,rfl⟩: ∃n',n=n'+1:=⟨n-1,by omega⟩;rw[BF hst,a7d hs m (i+1) (i+1) n _ (by omega) (Nat.le_refl _) (by omega) (by simp;omega) (fun j h h1 h2=>by omega),t6,if_pos (by omega),hlt];simp
    · have hst:JQ s (out,(a:Int),(i:Int))=some (.inl (out,(a:Int),((i+1:Nat):Int))):=by
        unfold JQ;dsimp only;rw[if_pos (tO hi),if_pos (sA hi),zI hi,if_neg (by simp only[aRk];intro h;exact h10 (DF.1 (show (s[i].toNat:Int)=((10:UInt8).toNat:Int) from h))),if_pos (tC (by omega))];rfl
      rw[BF hst,a7d hs m (i+1) a n out (by omega) (by omega) hn ho (fun j h h1 h2=>by
        by_cases hj:j=i
        ·subst hj;exact h10
        ·exact hno j h h1 (by omega))]
theorem QX {s:List UInt8}(hs:s.length≤4000000000):UH s=some ((uS s).map (·.2)):=by
  have h:=a7d hs s.length 0 0 s.length [] (by omega) (Nat.le_refl _) (by omega) (Nat.le_refl _) (fun j h h1 h2=>by omega);unfold UH;exact h
theorem aFn (s:List UInt8): ∀(n i:Nat),(t6 s n i).length≤n
  |0,_=>Nat.le_refl _
  | n+1,i=>by
    rw[t6];split
    · have:=aFn s n (sZ s i)
      simp only[aRj];omega
    ·simp
theorem EU {v:Ty}(a b:Int) (y:v.den): ∀l:List (Int×v.den),sV (.int .i64) v (v7 (.int .i64) v a y l) b=if b=a then y else sV (.int .i64) v l b
 |[]=>by
  show (if decide (b=a)=true then y else v.zero)=if b=a then y else v.zero;by_cases h:b=a<;>simp [h]
 |(x,z)::r=>by
  have ih:=EU a b y r;show sV (.int .i64) v (if decide (a=x)=true then(a,y)::r else(x,z)::v7 (.int .i64) v a y r) b=if b=a then y else(if decide (b=x)=true then z else sV (.int .i64) v r b);by_cases h:a=x
  ·rw[if_pos (aSd h)];show (if decide (b=a)=true then y else sV (.int .i64) v r b)=_;by_cases hb:b=a
   ·rw[if_pos (aSd hb),if_pos hb]
   ·rw[if_neg (by simpa using hb),if_neg hb,if_neg (by rw[<-h];simpa using hb)]
  ·rw[if_neg (by simpa using h)];show (if decide (b=x)=true then z else sV (.int .i64) v (v7 (.int .i64) v a y r) b)=_;rw[ih];by_cases hb:b=a
   ·rw[if_pos hb,if_pos hb,if_neg (by rw[hb];simpa using h)]
   ·rw[if_neg hb,if_neg hb]
def QY (l:List (List UInt8×Bool)):Prop:= ∀p∈l,p.2=true
theorem aFo {a:List UInt8}: ∀{l:List (List UInt8×Bool)},QY l->sV .str .bool l a=false->v7 .str .bool a true l=l++[(a,true)]
 |[],_,_=>rfl
 |(x,z)::r,h,hg=>by
  have hz:z=true:=h (x,z) aRB;have hg':(if decide (a=x)=true then z else sV .str .bool r a)=false:=hg;show (if decide (a=x)=true then(a,true)::r else(x,z)::v7 .str .bool a true r)=_;by_cases hx:a=x
  ·rw[if_pos (aSd hx),hz] at hg';cases hg'
  ·rw[if_neg (by simpa using hx)] at hg'⊢;rw[aFo (fun p hp=>h p (aRt _ hp)) hg'];rfl
theorem aFp {l:List (List UInt8×Bool)}{a:List UInt8}(h:QY l) (hg:sV .str .bool l a=false):QY (v7 .str .bool a true l)/\(v7 .str .bool a true l).length=l.length+1:=by
 rw[aFo h hg];refine⟨fun p hp=> ?_,by simp⟩;rcases aRO.1 hp with hp|hp
 ·exact h p hp
 ·rw[aRr.1 hp]
structure BI (cm:List (List UInt8)) (fl:List (List UInt8)) (fd:List rH) (once:List (Int×Bool)) (fm dm:List (List UInt8×Bool)) (hs ht:Bool):Prop where
 c:cm.length<=20
 f:fl.length<=20
 d:fd.length<=20
 o5:sV (.int .i64) .bool once 5=hs
 o6:sV (.int .i64) .bool once 6=ht
 g1: ∀x,sV .str .bool fm x=fl.any fun y=>decide (y=x)
 g1t:QY fm
 g1n:fm.length=fl.length
 g2: ∀x,sV .str .bool dm x=fd.any fun y=>decide (y.1=x)
 g2t:QY dm
 g2n:dm.length=fd.length
theorem a7e:BI [] [] [] [] [] [] false false:=⟨by decide,by decide,by decide,rfl,rfl,fun _=>rfl,fun _ h=>by(cases h),rfl,fun _=>rfl,fun _ h=>by(cases h),rfl⟩
theorem a7f (l:List (List UInt8)) (s:List UInt8) (hl:q8 l):UN l s=some (l.any fun x=>decide (x=s)):=by
 unfold q8 at hl;have h:=AN (f:=UM l s) (l:=l) (fun x=>decide (x=s)) (fun _=>true) (fun i h=>by
  unfold UM;rw[if_pos (tO h),if_pos (sA h),y5 (t:= .str) h,if_pos (tC (by omega))]) (by
  unfold UM;rw[if_neg (vI _)])
 unfold UN;rw[h,G8,a6H]
theorem aFq {l:List (List UInt8)}{x:List UInt8}(hl:q8 l): ∀(n j:Nat),j+n=l.length->qM (M7 l x) (j:Int)=some ((j+((l.drop j).findIdx? fun y=> !Op.bytesLess y x).getD n:Nat):Int)
 |0,j,hj=>by
  have:j=l.length:=by omega
  subst this;rw[aSb];refine uV ?_;unfold M7;rw[if_pos (fun hh=>by simp at hh),if_neg (by simp)];rfl
 |n+1,j,hj=>by
  have hlt:j<l.length:=by omega
  unfold q8 at hl;have hst:M7 l x (j:Int)=if Op.bytesLess l[j] x=true then some (.inl ((j+1:Nat):Int)) else some (.inr (j:Int)):=by
   unfold M7;rw[if_pos (fun _=>sA hlt),y5 (t:= .str) hlt,tO hlt,Bool.true_and,if_pos (tC (by omega))];rfl
  rw[aRC hlt,aSB];cases hb:Op.bytesLess l[j] x with
  |true=>
   rw[BF (hst.trans (if_pos hb)),aFq hl n (j+1) (by omega)];simp only[Bool.not_true,aSf,aTr];cases(l.drop (j+1)).findIdx? fun y=> !Op.bytesLess y x with
   |none=>simp;omega
   |some q=>simp;omega
  |false=>
   rw[uV (hst.trans (if_neg (by rw[hb];exact aRV)))];simp
theorem a7g {l:List (List UInt8)}(hl:q8 l) (x:List UInt8):UO l x=some (ES l x):=by
 have h:=aFq (x:=x) hl l.length 0 (by omega);have hl':=hl;unfold q8 at hl';have hk:=aMw l x;rw[aSk,aRR] at h;have h2:qM (M7 l x) (0:Int)=some ((wE l x:Nat):Int):=h;unfold UO;rw[h2];unfold rL;rw[aRf,if_pos (by omega),MZ,AU];have ht:(l.take (wE l x)).length=wE l x:=by rw[aRH];omega
 have hd:(l.drop (wE l x)).length=l.length-wE l x:=aRy;rw[if_pos (by rw[ht];simp only[aRs];omega),if_pos (by simp only[List.nil_append,aRj,aRs];rw[ht];omega),if_pos (by omega),if_pos (by simp only[List.nil_append,aRh,aRj,aRs];rw[ht,hd];omega)];rfl
theorem aM3 {l:List rH}{n v:List UInt8}(h:(l.any fun y=>decide (y.1=n))=false):(CG l n v).length=l.length+1/\∀x,((CG l n v).any fun y=>decide (y.1=x))=(decide (n=x)||l.any fun y=>decide (y.1=x)):=by
 have hk:yX l n=none:=by
  unfold yX;have:=a6F (p:=fun y:rH=>decide (y.1=n)) (l:=l);rw[h] at this;cases hf:l.findIdx? fun y=>decide (y.1=n) with
  |none=>rfl
  |some k=>rw[hf] at this;cases this
 have he:CG l n v=l.take (zM l n)++[(n,v,())]++l.drop (zM l n):=by unfold CG;rw[hk];rfl
 have hle:=aED l n;rw[he];refine⟨by simp;omega,fun x=> ?_⟩;have ha:(l.any fun y=>decide (y.1=x))=((l.take (zM l n)).any (fun y=>decide (y.1=x))||(l.drop (zM l n)).any fun y=>decide (y.1=x)):=by
  rw[<-List.any_append,aSs]
 rw[List.any_append,List.any_append,ha];simp only[List.any_cons,List.any_nil,Bool.or_false];cases(l.take (zM l n)).any (fun y=>decide (y.1=x))<;>cases decide (n=x)<;>rfl
section
variable {cm:List (List UInt8)}{fl:List (List UInt8)}{fd:List rH}{once:List (Int×Bool)}{fm dm:List (List UInt8×Bool)}{hs ht:Bool}(h:BI cm fl fd once fm dm hs ht)
variable {src x1 x2 a1 a2:List UInt8}{a3:List (List UInt8)}{st op op':Int}{k v:List UInt8}{bad:Bool}(hk:k.length<=4000000000) (hv:v.length<=4000000000)
def KI (cm:List (List UInt8)) (fl:List (List UInt8)) (fd:List rH) (once:List (Int×Bool)) (fm dm:List (List UInt8×Bool)) (hs ht:Bool) (src x1 x2 a1 a2:List UInt8) (a3:List (List UInt8)) (st op op':Int) (f:Int) (k v:List UInt8) (bad:Bool):Prop:=
 ((sB f k v bad).1=0/\∃r,tG ((x1,(src,(x2,(cm,(sQ fl,(st,(fd,()))))))),(hs,(ht,(op',())))) (f,(k,(v,(bad,()))))=some r/\r.2.2.2.2.2.2.2=3)\/
 ((sB f k v bad).1=f+1/\∃e cm' src' st' fd' once' fm' dm' fl' hs' ht',uC cm a1 src a2 a3 (st,(fd,())) (op,()) ((sB f k v bad).1,((sB f k v bad).2.1,((sB f k v bad).2.2,()))) once fm dm fl=some (e,cm',src',st',fd',once',fm',dm',fl')/\
  tG ((x1,(src,(x2,(cm,(sQ fl,(st,(fd,()))))))),(hs,(ht,(op',())))) (f,(k,(v,(bad,()))))=some (src',cm',sQ fl',st',fd',hs',ht',e)/\BI cm' fl' fd' once' fm' dm' hs' ht'/\sV (.int .i64) .bool once' 4=sV (.int .i64) .bool once 4)
include h
theorem aFr:KI cm fl fd once fm dm hs ht src x1 x2 a1 a2 a3 st op op' 2 k v bad:=by
 cases bad with
 |true=>exact .inl ⟨rfl,(src,cm,sQ fl,st,fd,hs,ht,3),by unfold tG;dsimp only;rw[if_pos (show decide ((2:Int)=2)=true from rfl),if_pos rfl],rfl⟩
 |false=>
  refine .inr ⟨rfl,?_⟩;rw[show sB 2 k v false=(3,[],v) from rfl];unfold tG uC;dsimp only;have hc:=h.c;rw[if_pos (show decide ((2:Int)=2)=true from rfl),if_neg aRV,if_pos (show decide ((3:Int)=3)=true from rfl)];by_cases h20:cm.length=20
  ·rw[if_pos (by simp;omega),if_pos (by simp;omega)];exact⟨_,_,_,_,_,_,_,_,_,_,_,rfl,rfl,h,rfl⟩
  ·rw[if_neg (show¬decide ((cm.length:Int)=20)=true by simp;omega),if_pos (by simp only[aRj,aRs];omega),if_neg (show¬decide ((20:Int)<=(cm.length:Int))=true by simp;omega),if_pos (by simp only[aRs];omega),if_pos (by simp only[List.nil_append,aRj,aRs];omega)];exact⟨_,_,_,_,_,_,_,_,_,_,_,rfl,rfl,⟨by simp;omega,h.f,h.d,h.o5,h.o6,h.g1,h.g1t,h.g1n,h.g2,h.g2t,h.g2n⟩,rfl⟩
theorem aM4:KI cm fl fd once fm dm hs ht src x1 x2 a1 a2 a3 st op op' 4 k v bad:=by
 cases bad with
 |true=>exact .inl ⟨rfl,(src,cm,sQ fl,st,fd,hs,ht,3),by unfold tG;dsimp only;rw[if_neg (show¬decide ((4:Int)=2)=true by decide),if_pos (show decide ((4:Int)=4)=true from rfl),if_pos rfl],rfl⟩
 |false=>
  refine .inr ⟨rfl,?_⟩;rw[show sB 4 k v false=(5,[],v) from rfl];unfold tG uC;dsimp only;rw[if_neg (show¬decide ((4:Int)=2)=true by decide),if_pos (show decide ((4:Int)=4)=true from rfl),if_neg aRV,if_neg (show¬decide ((5:Int)=3)=true by decide),if_neg (show¬decide ((5:Int)=4)=true by decide),if_pos (show decide ((5:Int)=5)=true from rfl)];unfold rL;rw[aRf];rw[if_pos (show decide ((5:Int)=5)=true from rfl),h.o5];cases hs with
  |true=>
   rw[if_pos rfl,if_pos rfl];exact⟨_,_,_,_,_,_,_,_,_,_,_,rfl,rfl,h,rfl⟩
  |false=>
   rw[if_neg aRV,if_neg aRV,if_pos (show decide ((5:Int)=5)=true from rfl)];refine⟨_,_,_,_,_,_,_,_,_,_,_,rfl,rfl,⟨h.c,h.f,h.d,?_,?_,h.g1,h.g1t,h.g1n,h.g2,h.g2t,h.g2n⟩,?_⟩
   ·rw[EU,if_pos rfl]
   ·rw[EU,if_neg (by decide)];exact h.o6
   ·rw[EU,if_neg (by decide)]
theorem aM5:KI cm fl fd once fm dm hs ht src x1 x2 a1 a2 a3 st op op' 5 k v bad:=by
 cases bad with
 |true=>exact .inl ⟨rfl,(src,cm,sQ fl,st,fd,hs,ht,3),by unfold tG;dsimp only;rw[if_neg (show¬decide ((5:Int)=2)=true by decide),if_neg (show¬decide ((5:Int)=4)=true by decide),if_pos (show decide ((5:Int)=5)=true from rfl),if_pos (fun hh=>by cases hh)];rfl,rfl⟩
 |false=>
  by_cases hst:0<=wO v
  ·have hp:sB 5 k v false=(6,[],v):=by
    show (if 0<=wO v then((6:Int),([]:List UInt8),v) else(0,[],[]))=_;rw[if_pos hst]
   refine .inr ⟨by rw[hp];rfl,?_⟩;rw[hp];unfold tG uC;dsimp only;rw[if_neg (show¬decide ((5:Int)=2)=true by decide),if_neg (show¬decide ((5:Int)=4)=true by decide),if_pos (show decide ((5:Int)=5)=true from rfl),VF,if_pos vO,C2,Bool.false_or,if_neg (show¬decide (wO v<0)=true by simp;omega)];rw[if_neg (show¬decide ((6:Int)=3)=true by decide),if_neg (show¬decide ((6:Int)=4)=true by decide),if_neg (show¬decide ((6:Int)=5)=true by decide)];unfold rL;rw[aRf];rw[if_pos (show decide ((6:Int)=6)=true from rfl),h.o6];cases ht with
   |true=>
    rw[if_pos rfl,if_pos rfl];exact⟨_,_,_,_,_,_,_,_,_,_,_,rfl,rfl,h,rfl⟩
   |false=>
    rw[if_neg aRV,if_neg aRV,if_neg (show¬decide ((6:Int)=5)=true by decide),if_pos (show decide ((6:Int)=6)=true from rfl)];rw[show CA ([([110,101,119]:List UInt8),([102,117,122,122,121]:List UInt8),([116,114,97,110,115,108,97,116,101,100]:List UInt8),([114,101,118,105,101,119,101,100]:List UInt8),([111,98,115,111,108,101,116,101]:List UInt8)]:List (List UInt8)) v=some (wO v) from(aEB v).2,aRf,aRf];refine⟨_,_,_,_,_,_,_,_,_,_,_,rfl,rfl,⟨h.c,h.f,h.d,?_,?_,h.g1,h.g1t,h.g1n,h.g2,h.g2t,h.g2n⟩,?_⟩
    ·rw[EU,if_neg (by decide)];exact h.o5
    ·rw[EU,if_pos rfl]
    ·rw[EU,if_neg (by decide)]
  ·have hp:sB 5 k v false=(0,[],[]):=by
    show (if 0<=wO v then((6:Int),([]:List UInt8),v) else(0,[],[]))=_;rw[if_neg hst]
   refine .inl ⟨by rw[hp],(src,cm,sQ fl,st,fd,hs,ht,3),?_,?_⟩
   ·unfold tG;dsimp only;rw[if_neg (show¬decide ((5:Int)=2)=true by decide),if_neg (show¬decide ((5:Int)=4)=true by decide),if_pos (show decide ((5:Int)=5)=true from rfl),VF,if_pos vO,C2,Bool.false_or,if_pos (show decide (wO v<0)=true by simp;omega)]
   ·rfl
include hv
theorem aM6:KI cm fl fd once fm dm hs ht src x1 x2 a1 a2 a3 st op op' 6 k v bad:=by
 have hfv:q8 v:=by unfold q8;omega
 have hff:=h.f;cases bad with
 |true=>exact .inl ⟨rfl,(src,cm,sQ fl,st,fd,hs,ht,3),by unfold tG;dsimp only;rw[if_neg (show¬decide ((6:Int)=2)=true by decide),if_neg (show¬decide ((6:Int)=4)=true by decide),if_neg (show¬decide ((6:Int)=5)=true by decide),if_pos (show decide ((6:Int)=6)=true from rfl),if_pos (fun hh=>by cases hh)];rfl,rfl⟩
 |false=>
  cases hN:sU v with
  |true=>
   have hp:sB 6 k v false=(7,[],v):=by
    show (if sU v=true then((7:Int),([]:List UInt8),v) else(0,[],[]))=_;rw[if_pos hN]
   refine .inr ⟨by rw[hp];rfl,?_⟩;rw[hp];unfold tG uC;dsimp only;have hfl:q8 (sQ fl):=by unfold q8;rw[N8];omega
   rw[if_neg (show¬decide ((6:Int)=2)=true by decide),if_neg (show¬decide ((6:Int)=4)=true by decide),if_neg (show¬decide ((6:Int)=5)=true by decide),if_pos (show decide ((6:Int)=6)=true from rfl),EK v hfv,if_pos vO,C2,hN,if_neg (show¬(false|| !true)=true by decide),a7f _ _ hfl,aRf,aMy,N8]
   rw[if_neg (show¬decide ((7:Int)=3)=true by decide),if_neg (show¬decide ((7:Int)=4)=true by decide),if_neg (show¬decide ((7:Int)=5)=true by decide)];unfold rL;rw[aRf,if_neg (show¬decide ((7:Int)=6)=true by decide),if_pos (show decide ((7:Int)=7)=true from rfl),h.g1,h.g1n];by_cases ha:(fl.any fun y=>decide (y=v))=true
   ·rw[if_pos ha,if_pos ha];exact⟨_,_,_,_,_,_,_,_,_,_,_,rfl,rfl,h,rfl⟩
   ·rw[if_neg ha,if_neg ha];by_cases h20:fl.length=20
    ·rw[if_pos (by simp;omega),if_pos (by simp;omega)];exact⟨_,_,_,_,_,_,_,_,_,_,_,rfl,rfl,h,rfl⟩
    ·rw[if_neg (show¬decide ((fl.length:Int)=20)=true by simp;omega),if_pos (by simp only[aRj,aRs];omega),if_neg (show¬decide ((20:Int)<=(fl.length:Int))=true by simp;omega),a7g hfl,aRf,aMB];have hg:sV .str .bool fm v=false:=by rw[h.g1];exact VV ha
     have hadd:=aFp h.g1t hg;refine⟨_,_,_,_,_,_,_,_,_,_,_,rfl,rfl,⟨h.c,by simp;omega,h.d,h.o5,h.o6,fun x=> ?_,hadd.1,by rw[hadd.2,h.g1n];simp,h.g2,h.g2t,h.g2n⟩,rfl⟩;rw[VQ,h.g1,List.any_append];by_cases hx:x=v
     ·rw[if_pos hx,hx];simp
     ·rw[if_neg hx];have:decide (v=x)=false:=decide_eq_false fun hh=>hx hh.symm;simp [this]
  |false=>
   have hp:sB 6 k v false=(0,[],[]):=by
    show (if sU v=true then((7:Int),([]:List UInt8),v) else(0,[],[]))=_;rw[if_neg (by rw[hN];exact aRV)]
   refine .inl ⟨by rw[hp],(src,cm,sQ fl,st,fd,hs,ht,3),?_,?_⟩
   ·unfold tG;dsimp only;rw[if_neg (show¬decide ((6:Int)=2)=true by decide),if_neg (show¬decide ((6:Int)=4)=true by decide),if_neg (show¬decide ((6:Int)=5)=true by decide),if_pos (show decide ((6:Int)=6)=true from rfl),EK v hfv,if_pos vO,C2,hN,if_pos (show (false|| !false)=true by decide)]
   ·rfl
omit hv
include hk
theorem aFs:KI cm fl fd once fm dm hs ht src x1 x2 a1 a2 a3 st op op' 7 k v bad:=by
 have hfk:q8 k:=by unfold q8;omega
 have hfd:=h.d;have hfit:q8 fd:=by unfold q8;omega
 cases bad with
 |true=>exact .inl ⟨rfl,(src,cm,sQ fl,st,fd,hs,ht,3),by unfold tG;dsimp only;rw[if_neg (show¬decide ((7:Int)=2)=true by decide),if_neg (show¬decide ((7:Int)=4)=true by decide),if_neg (show¬decide ((7:Int)=5)=true by decide),if_neg (show¬decide ((7:Int)=6)=true by decide),if_pos (show decide ((7:Int)=7)=true from rfl),if_pos (fun hh=>by cases hh)];rfl,rfl⟩
 |false=>
  cases hN:sU k with
  |true=>
   have hp:sB 7 k v false=(8,k,v):=by
    show (if sU k=true then((8:Int),k,v) else(0,[],[]))=_;rw[if_pos hN]
   refine .inr ⟨by rw[hp];rfl,?_⟩;rw[hp];unfold tG uC;dsimp only;rw[if_neg (show¬decide ((7:Int)=2)=true by decide),if_neg (show¬decide ((7:Int)=4)=true by decide),if_neg (show¬decide ((7:Int)=5)=true by decide),if_neg (show¬decide ((7:Int)=6)=true by decide),if_pos (show decide ((7:Int)=7)=true from rfl),EK k hfk,if_pos vO,C2,hN,if_neg (show¬(false|| !true)=true by decide),a6K _ _ hfit,aRf,a6J]
   rw[if_neg (show¬decide ((8:Int)=3)=true by decide),if_neg (show¬decide ((8:Int)=4)=true by decide),if_neg (show¬decide ((8:Int)=5)=true by decide)];unfold rL;rw[aRf,if_neg (show¬decide ((8:Int)=6)=true by decide),if_neg (show¬decide ((8:Int)=7)=true by decide),if_pos (show decide ((8:Int)=8)=true from rfl),h.g2,h.g2n];by_cases ha:(fd.any fun y=>decide (y.1=k))=true
   ·rw[if_pos ha,if_pos ha];exact⟨_,_,_,_,_,_,_,_,_,_,_,rfl,rfl,h,rfl⟩
   ·rw[if_neg ha,if_neg ha];by_cases h20:fd.length=20
    ·rw[if_pos (by simp;omega),if_pos (by simp;omega)];exact⟨_,_,_,_,_,_,_,_,_,_,_,rfl,rfl,h,rfl⟩
    ·rw[if_neg (by simp;omega),if_neg (by simp;omega),a6L _ _ _ hfit,aLM _ _ _ hfit,aRf,aRf];have hg:sV .str .bool dm k=false:=by rw[h.g2];exact VV ha
     have hadd:=aFp h.g2t hg;have hset:=aM3 (v:=v) (VV ha);refine⟨_,_,_,_,_,_,_,_,_,_,_,rfl,rfl,⟨h.c,h.f,by rw[hset.1];omega,h.o5,h.o6,h.g1,h.g1t,h.g1n,fun x=> ?_,hadd.1,by rw[hadd.2,h.g2n,hset.1]⟩,rfl⟩;rw[VQ,h.g2,hset.2 x];by_cases hx:x=k
     ·rw[if_pos hx,hx];simp
     ·rw[if_neg hx,decide_eq_false fun hh=>hx hh.symm,Bool.false_or]
  |false=>
   have hp:sB 7 k v false=(0,[],[]):=by
    show (if sU k=true then((8:Int),k,v) else(0,[],[]))=_;rw[if_neg (by rw[hN];exact aRV)]
   refine .inl ⟨by rw[hp],(src,cm,sQ fl,st,fd,hs,ht,3),?_,?_⟩
   ·unfold tG;dsimp only;rw[if_neg (show¬decide ((7:Int)=2)=true by decide),if_neg (show¬decide ((7:Int)=4)=true by decide),if_neg (show¬decide ((7:Int)=5)=true by decide),if_neg (show¬decide ((7:Int)=6)=true by decide),if_pos (show decide ((7:Int)=7)=true from rfl),EK k hfk,if_pos vO,C2,hN,if_pos (show (false|| !false)=true by decide)]
   ·rfl
end
abbrev PS:=(List UInt8)×(List (List UInt8))×(List qB)×(List qQ)×Bool×(List Int)×(List (List UInt8))×(List UInt8)×(List UInt8)×(List UInt8)×(List (List UInt8))×Int×(List qB)×Int×(List ((List UInt8)×Bool))×(List (Int×Bool))×(List ((List UInt8)×Bool))×(List ((List UInt8)×Bool))×(List (List UInt8))
def A3 (tag:List UInt8) (cms:List (List UInt8)) (fds:List rH) (es:List qQ) (inside:Bool) (ends:List Int) (cm:List (List UInt8)) (src:List UInt8) (st:Int) (fd:List rH) (op:Int) (ids:List (List UInt8×Bool)) (once:List (Int×Bool)) (fm dm:List (List UInt8×Bool)) (fl:List (List UInt8)):PS:=
  (tag,cms,fds,es,inside,ends,cm,[],src,[],[],st,fd,op,ids,once,fm,dm,fl)
abbrev RS:=(List Int)×Int×Int×(List UInt8)×(List (List UInt8))×(List qB)×(List qQ)×(List UInt8)×(List UInt8)×(List UInt8)×(List (List UInt8))×(List (List UInt8))×Int×(List qB)×Bool×Bool×Int
noncomputable def GG (it:Int×List UInt8) (b:PS):Option (Int×PS):=
 (CC it.2 ([10]:List UInt8)).bind fun r1=>
 (AS (Lib.trimLeftS r1 ([32,9]:List UInt8))).bind fun r=>
 if b.2.2.2.2.1=true then
  if pP (it.1+(it.2.length:Int)) then
   (uD (b.1,(b.2.1,(b.2.2.1,(b.2.2.2.1,())))) b.2.2.2.2.1 (b.2.2.2.2.2.1,()) (r.1,(r.2.1,(r.2.2,()))) it.1 (it.1+(it.2.length:Int)) b.2.2.2.2.2.2.1 b.2.2.2.2.2.2.2.1 b.2.2.2.2.2.2.2.2.1 b.2.2.2.2.2.2.2.2.2.1 b.2.2.2.2.2.2.2.2.2.2.1 (b.2.2.2.2.2.2.2.2.2.2.2.1,(b.2.2.2.2.2.2.2.2.2.2.2.2.1,())) (b.2.2.2.2.2.2.2.2.2.2.2.2.2.1,()) b.2.2.2.2.2.2.2.2.2.2.2.2.2.2.1 b.2.2.2.2.2.2.2.2.2.2.2.2.2.2.2.1 b.2.2.2.2.2.2.2.2.2.2.2.2.2.2.2.2.1 b.2.2.2.2.2.2.2.2.2.2.2.2.2.2.2.2.2.1 b.2.2.2.2.2.2.2.2.2.2.2.2.2.2.2.2.2.2).bind fun r=>
   some ((r.1,b.1,b.2.1,b.2.2.1,r.2.1,b.2.2.2.2.1,r.2.2.1,r.2.2.2.2.1,r.2.2.2.2.2.1,r.2.2.2.2.2.2.1,r.2.2.2.2.2.2.2.1,r.2.2.2.2.2.2.2.2.1,r.2.2.2.2.2.2.2.2.2.1,r.2.2.2.2.2.2.2.2.2.2.1,r.2.2.2.2.2.2.2.2.2.2.2.1,r.2.2.2.1,r.2.2.2.2.2.2.2.2.2.2.2.2.1,r.2.2.2.2.2.2.2.2.2.2.2.2.2.1,r.2.2.2.2.2.2.2.2.2.2.2.2.2.2.1,r.2.2.2.2.2.2.2.2.2.2.2.2.2.2.2))
  else none
 else
  if pP (it.1+(it.2.length:Int)) then
   (tN (b.1,(b.2.1,(b.2.2.1,(b.2.2.2.1,())))) b.2.2.2.2.1 (b.2.2.2.2.2.1,()) (r.1,(r.2.1,(r.2.2,()))) (it.1+(it.2.length:Int)) b.2.2.2.2.2.2.1 b.2.2.2.2.2.2.2.1 b.2.2.2.2.2.2.2.2.1 b.2.2.2.2.2.2.2.2.2.1 b.2.2.2.2.2.2.2.2.2.2.1 (b.2.2.2.2.2.2.2.2.2.2.2.1,(b.2.2.2.2.2.2.2.2.2.2.2.2.1,())) (b.2.2.2.2.2.2.2.2.2.2.2.2.2.1,()) b.2.2.2.2.2.2.2.2.2.2.2.2.2.2.1 b.2.2.2.2.2.2.2.2.2.2.2.2.2.2.2.1 b.2.2.2.2.2.2.2.2.2.2.2.2.2.2.2.2.1 b.2.2.2.2.2.2.2.2.2.2.2.2.2.2.2.2.2.1 b.2.2.2.2.2.2.2.2.2.2.2.2.2.2.2.2.2.2).bind fun r=>
   some ((r.1,r.2.1,r.2.2.1,r.2.2.2.1,b.2.2.2.1,r.2.2.2.2.1,r.2.2.2.2.2.1,r.2.2.2.2.2.2.1,r.2.2.2.2.2.2.2.1,r.2.2.2.2.2.2.2.2.1,r.2.2.2.2.2.2.2.2.2.1,r.2.2.2.2.2.2.2.2.2.2.1,r.2.2.2.2.2.2.2.2.2.2.2.1,r.2.2.2.2.2.2.2.2.2.2.2.2.1,r.2.2.2.2.2.2.2.2.2.2.2.2.2.1,b.2.2.2.2.2.2.2.2.2.2.2.2.2.2.1,r.2.2.2.2.2.2.2.2.2.2.2.2.2.2.1,r.2.2.2.2.2.2.2.2.2.2.2.2.2.2.2.1,r.2.2.2.2.2.2.2.2.2.2.2.2.2.2.2.2.1,r.2.2.2.2.2.2.2.2.2.2.2.2.2.2.2.2.2))
  else none
theorem aFt (it:Int×List UInt8) (b:PS):I9 it b=(GG it b).bind fun q=>if (!decide (q.1=(0:Int)))=true then none else some (.inl q.2):=by
  unfold I9 GG rL;obtain⟨b1,b2,b3,b4,b5,b6,b7,b8,b9,b10,b11,b12,b13,b14,GC,b16,b17,b18,b19⟩:=b;dsimp only;cases CC it.2 [10] with
  |none=>rfl
  | some r1=>
    rw[aRf,aRf];cases AS (Lib.trimLeftS r1 [32,9]) with
    |none=>rfl
    |some r=>rfl
theorem aFu (it:Int×List UInt8) (b:PS):IA it b=(GG it b).bind fun q=>if (!decide (q.1=(0:Int)))=true then some (.inr (it.1,q.1)) else some (.inl q.2):=by
  unfold IA GG rL;obtain⟨b1,b2,b3,b4,b5,b6,b7,b8,b9,b10,b11,b12,b13,b14,GC,b16,b17,b18,b19⟩:=b;dsimp only;cases CC it.2 [10] with
  |none=>rfl
  | some r1=>
    rw[aRf,aRf];cases AS (Lib.trimLeftS r1 [32,9]) with
    |none=>rfl
    |some r=>rfl
noncomputable def tT (b:RS) (r:Int×List UInt8×List UInt8×Bool):Option (Int×Bool×(List UInt8)×(List (List UInt8))×(List qB)×(List qQ)×(List UInt8)×(List UInt8)×(List UInt8)×(List (List UInt8))×(List (List UInt8))×Int×(List qB)×Bool×Bool×Int):=
  match b with
  |(O,Z,_,aA,aB,aC,aD,aE,aF,aG,aH,aI,aJ,aK,aL,aM,aN)=>
       if (decide ((O.length:Int)=(0:Int)))=true then
        (xG (aA,(aB,(aC,(aD,())))) ((aE,(aF,(aG,(aH,(aI,(aJ,(aK,()))))))),(aL,(aM,(aN,())))) (r.1,(r.2.1,(r.2.2.1,(r.2.2.2,()))))).bind fun aO=>
        some ((aO.2.2.2.2.2.2.2.2.2.2.2.2.2.2,aO.2.2.2.2.2.2.2.2.2.2.2.2.2.1,aO.1,aO.2.1,aO.2.2.1,aD,aO.2.2.2.1,aO.2.2.2.2.1,aO.2.2.2.2.2.1,aO.2.2.2.2.2.2.1,aO.2.2.2.2.2.2.2.1,aO.2.2.2.2.2.2.2.2.1,aO.2.2.2.2.2.2.2.2.2.1,aO.2.2.2.2.2.2.2.2.2.2.1,aO.2.2.2.2.2.2.2.2.2.2.2.1,aO.2.2.2.2.2.2.2.2.2.2.2.2.1))
       else
        if (decide (r.1=(9:Int)))=true then
         (E9 (aA,(aB,(aC,(aD,())))) ((aE,(aF,(aG,(aH,(aI,(aJ,(aK,()))))))),(aL,(aM,(aN,())))) (r.1,(r.2.1,(r.2.2.1,(r.2.2.2,()))))).bind fun aP=>
         some ((aP.2,true,aA,aB,aC,aP.1,([]:List UInt8),([]:List UInt8),([]:List UInt8),([]:List (List UInt8)),([]:List (List UInt8)),(0:Int),([]:List qB),false,false,(-1:Int)))
        else
         if (((decide ((2:Int)≤r.1))&&(decide (r.1≤(7:Int))))&&(!decide (r.1=(3:Int))))=true then
          (tG ((aE,(aF,(aG,(aH,(aI,(aJ,(aK,()))))))),(aL,(aM,(aN,())))) (r.1,(r.2.1,(r.2.2.1,(r.2.2.2,()))))).bind fun aQ=>
          if (decide (aN<(0:Int)))=true then
           some ((aQ.2.2.2.2.2.2.2,false,aA,aB,aC,aD,aE,aQ.1,aG,aQ.2.1,aQ.2.2.1,aQ.2.2.2.1,aQ.2.2.2.2.1,aQ.2.2.2.2.2.1,aQ.2.2.2.2.2.2.1,Z))
          else
           some ((aQ.2.2.2.2.2.2.2,false,aA,aB,aC,aD,aE,aQ.1,aG,aQ.2.1,aQ.2.2.1,aQ.2.2.2.1,aQ.2.2.2.2.1,aQ.2.2.2.2.2.1,aQ.2.2.2.2.2.2.1,aN))
         else
          if (decide ((1:Int)<r.1))=true then
           some (((3:Int),false,aA,aB,aC,aD,aE,aF,aG,aH,aI,aJ,aK,aL,aM,aN))
          else
           some (((0:Int),false,aA,aB,aC,aD,aE,aF,aG,aH,aI,aJ,aK,aL,aM,aN))
theorem aFv {ls:List (List UInt8)}{b:RS}{i:Nat}(hi:b.2.2.1=(i:Int)) (hlt:i<ls.length) (h1:i≤4000000000) (h2:pP (b.2.1+(List.length ls[i]:Int))):xP ls b=(u7 ls[i]).bind fun q=>(tT b q).bind fun r=>
     if (!decide (r.1=(0:Int)))=true then
      some (.inr (.inr ((([]:List UInt8),([]:List (List UInt8)),([]:List qB),([]:List qQ),([]:List Int),b.2.1,r.1))))
     else
      if r.2.1=true then
       if (b.1.length+1)*8≤140737488355328 then
         some (.inl ((b.1++([(b.2.1+(List.length ls[i]:Int))]:List Int)),(b.2.1+(List.length ls[i]:Int)),((i:Int)+1),r.2.2))
       else none
      else
        some (.inl (b.1,(b.2.1+(List.length ls[i]:Int)),((i:Int)+1),r.2.2)):=by
  obtain⟨b1,b2,b3,b4,b5,b6,b7,b8,b9,b10,b11,b12,b13,b14,GC,b16,b17⟩:=b;dsimp only at hi h2;subst hi;unfold xP rL;dsimp only;rw[if_pos (tO hlt),if_pos (sA hlt),y5 (t:= .str) hlt];cases u7 ls[i] with
  |none=>rfl
  | some q=>
    rw[aRf,aRf,if_pos (sA hlt),if_pos h2];unfold tT;dsimp only;refine aRN (Option.bind _) (funext fun r=> ?_);obtain⟨r1,r2,r3,r4,r5,r6,r7,r8,r9,r10,r11,r12,r13,r14,r15,r16⟩:=r;dsimp only;rw[if_pos (tC h1),if_pos (tC h1)];rfl
structure SI (tag:List UInt8) (cms:List (List UInt8)) (fds:List rH) (es:List qQ) (ends:List Int) (cm:List (List UInt8)) (fl:List (List UInt8)) (fd:List rH) (ids:List (List UInt8×Bool)) (once:List (Int×Bool)) (fm dm:List (List UInt8×Bool)) (hs ht:Bool):Prop where
  b:BI cm fl fd once fm dm hs ht
  tg:ends=[]→sV (.int .i64) .bool once 4= !decide (tag=[])
  id:VT ids es
  en:es.length≤1000
  ef: ∀y∈es,N9 y
  cf:q8 cms
  ff:q8 fds
section
variable {cm:List (List UInt8)}{fl:List (List UInt8)}{fd:List rH}{once:List (Int×Bool)}{fm dm:List (List UInt8×Bool)}{src a1 a2 q1 q2:List UInt8}{a3:List (List UInt8)}{st op:Int}
theorem aFw {pf:Int}(h:pf=1∨pf=2):uC cm a1 src a2 a3 (st,(fd,())) (op,()) (pf,(q1,(q2,()))) once fm dm fl=some (0,cm,src,st,fd,once,fm,dm,fl):=by
  unfold uC;rcases h with rfl|rfl<;>simp only[rL,aRf,aRk,Int.reduceEq,↓reduceIte]
theorem aM7:uC cm a1 src a2 a3 (st,(fd,())) (op,()) (4,(q1,(q2,()))) once fm dm fl=some (if sV (.int .i64) .bool once 4=true then(9,cm,src,st,fd,once,fm,dm,fl) else(0,cm,src,st,fd,v7 (.int .i64) .bool 4 true once,fm,dm,fl)):=by
  unfold uC;simp only[rL,aRf,aRk,Int.reduceEq,↓reduceIte];by_cases h:sV (.int .i64) .bool once 4=true
  ·rw[if_pos h,if_pos h]
  ·rw[if_neg h,if_neg h]
end
theorem aFx {v:List UInt8}(h:vE v=true):v≠[]:=by
  rintro rfl;exact absurd h (by decide)
section
variable {tag:List UInt8}{cms:List (List UInt8)}{fds:List rH}{es:List qQ}{cm:List (List UInt8)}{fl:List (List UInt8)}{fd:List rH}{ids:List (List UInt8×Bool)}{once:List (Int×Bool)}{fm dm:List (List UInt8×Bool)}{hs ht:Bool}
variable {src:List UInt8}{st op tz:Int}{f:Int}{k v:List UInt8}{bad:Bool}
abbrev RP:=Int×(List UInt8)×(List (List UInt8))×(List qB)×Bool×(List Int)×(List (List UInt8))×(List UInt8)×(List UInt8)×(List UInt8)×(List (List UInt8))×Int×(List qB)×Int×(List (Int×Bool))×(List ((List UInt8)×Bool))×(List ((List UInt8)×Bool))×(List (List UInt8))
abbrev RR:=(List UInt8)×(List (List UInt8))×(List qB)×(List UInt8)×(List UInt8)×(List UInt8)×(List (List UInt8))×(List (List UInt8))×Int×(List qB)×Bool×Bool×Int×Bool×Int
def aM8 (es:List qQ) (ids:List (List UInt8×Bool)) (tz:Int) (rp:RP) (rr:RR):Prop:=
  ∃ tag' cms' fds' cm' src' st' fd' op' once' fm' dm' fl' hs' ht' dn,rp=(0,tag',cms',fds',dn,(if dn=true then[tz] else[]),cm',[],src',[],[],st',fd',op',once',fm',dm',fl')∧
    rr=(tag',cms',fds',[],src',[],cm',sQ fl',st',fd',hs',ht',op',dn,0)∧SI tag' cms' fds' es (if dn=true then[tz] else[]) cm' fl' fd' ids once' fm' dm' hs' ht'
def GH (tag:List UInt8) (cms:List (List UInt8)) (fds:List rH) (es:List qQ) (cm:List (List UInt8)) (fl:List (List UInt8)) (fd:List rH) (ids:List (List UInt8×Bool)) (once:List (Int×Bool)) (fm dm:List (List UInt8×Bool)) (hs ht:Bool) (src:List UInt8) (st op tz f:Int) (k v:List UInt8) (bad:Bool):Prop:=
  ∃ rp rr,tN (tag,(cms,(fds,(es,())))) false ([],()) ((sB f k v bad).1,((sB f k v bad).2.1,((sB f k v bad).2.2,()))) tz cm [] src [] [] (st,(fd,())) (op,()) ids once fm dm fl=some rp∧
    xG (tag,(cms,(fds,(es,())))) (([],(src,([],(cm,(sQ fl,(st,(fd,()))))))),(hs,(ht,(op,())))) (f,(k,(v,(bad,()))))=some rr∧
    ((rp.1≠0∧rr.2.2.2.2.2.2.2.2.2.2.2.2.2.2=rp.1)∨aM8 es ids tz rp rr)
variable (h:SI tag cms fds es [] cm fl fd ids once fm dm hs ht)
include h
theorem KJ (hp:(sB f k v bad).1=0∨(sB f k v bad).1=5∨(sB f k v bad).1=6∨(sB f k v bad).1=7∨(sB f k v bad).1=10) (hr: ∃rr,xG (tag,(cms,(fds,(es,())))) (([],(src,([],(cm,(sQ fl,(st,(fd,()))))))),(hs,(ht,(op,())))) (f,(k,(v,(bad,()))))=some rr∧rr.2.2.2.2.2.2.2.2.2.2.2.2.2.2=3):GH tag cms fds es cm fl fd ids once fm dm hs ht src st op tz f k v bad:=by
  obtain⟨rr,h1,h2⟩:=hr;refine⟨(3,tag,cms,fds,false,[],cm,[],src,[],[],st,fd,op,once,fm,dm,fl),rr,?_,h1,.inl ⟨?_,?_⟩⟩
  · unfold tN
    generalize (sB f k v bad).1=pf at hp;rcases hp with rfl|rfl|rfl|rfl|rfl<;>simp only[rL,aRf,aRk,Int.reduceEq,↓reduceIte]
  · show (3:Int)≠0
    decide
  ·exact h2
theorem aFy (hf:f=0∨f=1):GH tag cms fds es cm fl fd ids once fm dm hs ht src st op tz f k v bad:=by
  unfold GH tN xG;have h1: ∀{q1 q2:List UInt8},uC cm [] src [] [] (st,(fd,())) (op,()) (1,(q1,(q2,()))) once fm dm fl=some (0,cm,src,st,fd,once,fm,dm,fl):=aFw (.inl rfl);have h2: ∀{q1 q2:List UInt8},uC cm [] src [] [] (st,(fd,())) (op,()) (2,(q1,(q2,()))) once fm dm fl=some (0,cm,src,st,fd,once,fm,dm,fl):=aFw (.inr rfl);rcases hf with rfl|rfl
  · rw[show sB 0 k v bad=(1,[],[]) from rfl]
    simp only[rL,aRf,aRk,Int.reduceEq,↓reduceIte,h1];exact⟨_,_,rfl,rfl,.inr ⟨tag,cms,fds,cm,src,st,fd,op,once,fm,dm,fl,hs,ht,false,rfl,rfl,h⟩⟩
  · rw[show sB 1 k v bad=(2,[],[]) from rfl]
    simp only[rL,aRf,aRk,Int.reduceEq,↓reduceIte,h2];exact⟨_,_,rfl,rfl,.inr ⟨tag,cms,fds,cm,src,st,fd,op,once,fm,dm,fl,hs,ht,false,rfl,rfl,h⟩⟩
theorem aFz (hf:f=2∨f=7) (hk:k.length≤4000000000):GH tag cms fds es cm fl fd ids once fm dm hs ht src st op tz f k v bad:=by
  have hA:KI cm fl fd once fm dm hs ht src [] [] [] [] [] st op op f k v bad:=by
    rcases hf with rfl|rfl
    ·exact aFr h.b
    ·exact aFs h.b hk
  have hr: ∀r,tG (([],(src,([],(cm,(sQ fl,(st,(fd,()))))))),(hs,(ht,(op,())))) (f,(k,(v,(bad,()))))=some r→xG (tag,(cms,(fds,(es,())))) (([],(src,([],(cm,(sQ fl,(st,(fd,()))))))),(hs,(ht,(op,())))) (f,(k,(v,(bad,()))))=some (tag,cms,fds,[],r.1,[],r.2.1,r.2.2.1,r.2.2.2.1,r.2.2.2.2.1,r.2.2.2.2.2.1,r.2.2.2.2.2.2.1,op,false,r.2.2.2.2.2.2.2):=by
    intro r hr;unfold xG;rcases hf with rfl|rfl<;>simp only[rL,aRf,aRk,Int.reduceEq,↓reduceIte,hr]
  rcases hA with⟨h0,r,h1,h2⟩ |⟨hp,e,cm',src',st',fd',once',fm',dm',fl',hs',ht',h1,h2,h3,h4⟩
  ·exact KJ h (.inl h0) ⟨_,hr r h1,h2⟩
  · refine⟨(e,tag,cms,fds,false,[],cm',[],src',[],[],st',fd',op,once',fm',dm',fl'),_,?_,hr _ h2,?_⟩
    · unfold tN
      dsimp only;rw[h1];rcases hf with rfl|rfl<;>rw[hp]<;>simp only[rL,aRf,aRk,Int.reduceEq,Int.reduceAdd,↓reduceIte]
    · by_cases he:e=0
      · subst he
        exact .inr ⟨tag,cms,fds,cm',src',st',fd',op,once',fm',dm',fl',hs',ht',false,rfl,rfl,⟨h3,fun _=>by rw[h4];exact h.tg rfl,h.id,h.en,h.ef,h.cf,h.ff⟩⟩
      ·exact .inl ⟨he,rfl⟩
theorem aM9 (hv:v.length≤4000000000):GH tag cms fds es cm fl fd ids once fm dm hs ht src st op tz 3 k v bad:=by
  have hfv:q8 v:=by unfold q8;omega
  by_cases hb:bad=true∨vE v=false
  · refine KJ h (.inl ?_) ?_
    · rcases hb with rfl|hb
      ·rfl
      · cases bad with
        |true=>rfl
        | false=>
          show (if vE v=true then((4:Int),([]:List UInt8),v) else(0,[],[])).1=0;rw[if_neg (by rw[hb];exact aRV)]
    · unfold xG
      simp only[rL,aRf,aRk,Int.reduceEq,↓reduceIte];rw[VC v hfv,if_pos vO,C2,if_pos (by rcases hb with rfl|hb;rfl;rw[hb];simp)]
      exact⟨_,rfl,rfl⟩
  · have hb1:bad=false:=by cases bad;rfl;exact absurd (.inl rfl) hb
    have hb2:vE v=true:=by cases ht2:vE v;exact absurd (.inr ht2) hb;rfl
    subst hb1
    have hp:sB 3 k v false=(4,[],v):=by
      show (if vE v=true then((4:Int),([]:List UInt8),v) else(0,[],[]))=_;rw[if_pos hb2]
    have htg:=h.tg rfl;have hat: ∀{q1 q2:List UInt8},uC cm [] src [] [] (st,(fd,())) (op,()) (4,(q1,(q2,()))) once fm dm fl=_:=aM7;unfold GH tN xG;rw[hp];simp only[rL,aRf,aRk,Int.reduceEq,↓reduceIte,hat];rw[VC v hfv,if_pos vO,C2,if_neg (show¬(false|| !vE v)=true by rw[hb2];decide),htg]
    by_cases ht0:tag=[]
    · rw[aSd ht0]
      simp only[Bool.not_true,Bool.not_false,aSf,↓reduceIte,aRf];refine⟨_,_,rfl,rfl,.inr ⟨v,cms,fds,cm,src,st,fd,op,_,fm,dm,fl,hs,ht,false,rfl,rfl,⟨⟨h.b.c,h.b.f,h.b.d,?_,?_,h.b.g1,h.b.g1t,h.b.g1n,h.b.g2,h.b.g2t,h.b.g2n⟩,fun _=> ?_,h.id,h.en,h.ef,h.cf,h.ff⟩⟩⟩
      ·rw[EU,if_neg (by decide)];exact h.b.o5
      ·rw[EU,if_neg (by decide)];exact h.b.o6
      · rw[EU,if_pos rfl,decide_eq_false (aFx hb2)]
        rfl
    · rw[decide_eq_false ht0]
      simp only[Bool.not_true,Bool.not_false,aSf,↓reduceIte,aRf];exact⟨_,_,rfl,rfl,.inl ⟨(show (9:Int)≠0 by decide),rfl⟩⟩
theorem aNa:GH tag cms fds es cm fl fd ids once fm dm hs ht src st op tz 8 k v bad:=by
  have htg:=h.tg rfl;unfold GH tN xG;rw[show sB 8 k v bad=(9,[],[]) from rfl];simp only[rL,aRf,aRk,Int.reduceEq,↓reduceIte];rw[htg];by_cases ht0:tag=[]
  · rw[aSd ht0,if_pos ht0]
    exact⟨_,_,rfl,rfl,.inl ⟨(show (3:Int)≠0 by decide),rfl⟩⟩
  · rw[decide_eq_false ht0,if_neg ht0]
    simp only[Bool.not_false,Bool.not_true,aSf,↓reduceIte,aRs,aRj,List.nil_append];have hc:=h.b.c;have hd:=h.b.d;exact⟨_,_,rfl,rfl,.inr ⟨tag,cm,fd,[],[],0,[],-1,[],[],[],[],false,false,true,rfl,by rw[show sQ []=[] from aSh.1 (N8 [])],⟨a7e,fun hh=>(by cases hh),h.id,h.en,h.ef,by unfold q8;omega,by unfold q8;omega⟩⟩⟩
theorem aNb (hf0:0≤f) (hf:f≤10) (hk:k.length≤4000000000) (hv:v.length≤4000000000):GH tag cms fds es cm fl fd ids once fm dm hs ht src st op tz f k v bad:=by
  have:f=0∨f=1∨f=2∨f=3∨f=4∨f=5∨f=6∨f=7∨f=8∨f=9∨f=10:=by omega
  have hr:(f=4∨f=5∨f=6∨f=9∨f=10)→∃rr,xG (tag,(cms,(fds,(es,())))) (([],(src,([],(cm,(sQ fl,(st,(fd,()))))))),(hs,(ht,(op,())))) (f,(k,(v,(bad,()))))=some rr∧rr.2.2.2.2.2.2.2.2.2.2.2.2.2.2=3:=by
    intro hh;unfold xG;rcases hh with rfl|rfl|rfl|rfl|rfl<;>simp only[rL,aRf,aRk,Int.reduceEq,↓reduceIte]<;>exact⟨_,rfl,rfl⟩
  rcases this with rfl|rfl|rfl|rfl|rfl|rfl|rfl|rfl|rfl|rfl|rfl
  ·exact aFy h (.inl rfl)
  ·exact aFy h (.inr rfl)
  ·exact aFz h (.inl rfl) hk
  ·exact aM9 h hv
  · refine KJ h ?_ (hr (.inl rfl))
    cases bad
    ·exact .inr (.inl rfl)
    ·exact .inl rfl
  · refine KJ h ?_ (hr (.inr (.inl rfl)))
    cases bad
    · rw[show sB 5 k v false=(if 0≤wO v then((6:Int),([]:List UInt8),v) else(0,[],[])) from rfl]
      split
      ·exact .inr (.inr (.inl rfl))
      ·exact .inl rfl
    ·exact .inl rfl
  · refine KJ h ?_ (hr (.inr (.inr (.inl rfl))))
    cases bad
    · rw[show sB 6 k v false=(if sU v=true then((7:Int),([]:List UInt8),v) else(0,[],[])) from rfl]
      split
      ·exact .inr (.inr (.inr (.inl rfl)))
      ·exact .inl rfl
    ·exact .inl rfl
  ·exact aFz h (.inr rfl) hk
  ·exact aNa h
  · refine KJ h ?_ (hr (.inr (.inr (.inr (.inl rfl)))))
    cases bad
    · rw[aFh]
      split
      ·exact .inl rfl
      ·exact .inr (.inr (.inr (.inr rfl)))
    ·exact .inl rfl
  ·exact KJ h (.inl (by rw[ND])) (hr (.inr (.inr (.inr (.inr rfl)))))
end
section
variable {tag:List UInt8}{cms:List (List UInt8)}{fds:List rH}{es:List qQ}{ends:List Int}{cm:List (List UInt8)}{fl:List (List UInt8)}{fd:List rH}{ids:List (List UInt8×Bool)}{once:List (Int×Bool)}{fm dm:List (List UInt8×Bool)}{hs ht:Bool}
variable {src:List UInt8}{st op at0 idx tz:Int}{f:Int}{k v:List UInt8}{bad:Bool}
abbrev EP:=Int×(List qQ)×(List Int)×(List ((List UInt8)×Bool))×(List (List UInt8))×(List UInt8)×(List UInt8)×(List UInt8)×(List (List UInt8))×Int×(List qB)×Int×(List (Int×Bool))×(List ((List UInt8)×Bool))×(List ((List UInt8)×Bool))×(List (List UInt8))
abbrev ER:=Int×Bool×(List UInt8)×(List (List UInt8))×(List qB)×(List qQ)×(List UInt8)×(List UInt8)×(List UInt8)×(List (List UInt8))×(List (List UInt8))×Int×(List qB)×Bool×Bool×Int
def aNc (tag:List UInt8) (cms:List (List UInt8)) (fds:List rH) (ends:List Int) (tz:Int) (rp:EP) (rr:ER):Prop:=
 ∃es' ids' cm' src' st' fd' op' once' fm' dm' fl' hs' ht' dn,rp=(0,es',ends++(if dn=true then[tz] else[]),ids',cm',[],src',[],[],st',fd',op',once',fm',dm',fl')/\
  rr=(0,dn,tag,cms,fds,es',[],src',[],cm',sQ fl',st',fd',hs',ht',op')/\SI tag cms fds es' (ends++(if dn=true then[tz] else[])) cm' fl' fd' ids' once' fm' dm' hs' ht'
def KK (tag:List UInt8) (cms:List (List UInt8)) (fds:List rH) (es:List qQ) (ends:List Int) (cm:List (List UInt8)) (fl:List (List UInt8)) (fd:List rH) (ids:List (List UInt8×Bool)) (once:List (Int×Bool)) (fm dm:List (List UInt8×Bool)) (hs ht:Bool) (src:List UInt8) (st op at0 idx tz f:Int) (k v:List UInt8) (bad:Bool):Prop:=
 ∃rp rr,uD (tag,(cms,(fds,(es,())))) true (ends,()) ((sB f k v bad).1,((sB f k v bad).2.1,((sB f k v bad).2.2,()))) at0 tz cm [] src [] [] (st,(fd,())) (op,()) ids once fm dm fl=some rp/\
  tT (ends,at0,idx,tag,cms,fds,es,[],src,[],cm,sQ fl,st,fd,hs,ht,op) (f,k,v,bad)=some rr/\((rp.1≠0/\rr.1=rp.1)\/aNc tag cms fds ends tz rp rr)
variable (h:SI tag cms fds es ends cm fl fd ids once fm dm hs ht) (hne:ends≠[])
include h hne
theorem QZ (hp:(sB f k v bad).1=0\/(sB f k v bad).1=4\/(sB f k v bad).1=9) (hr: ∃rr,tT (ends,at0,idx,tag,cms,fds,es,[],src,[],cm,sQ fl,st,fd,hs,ht,op) (f,k,v,bad)=some rr/\rr.1=3):KK tag cms fds es ends cm fl fd ids once fm dm hs ht src st op at0 idx tz f k v bad:=by
 obtain⟨rr,h1,h2⟩:=hr;refine⟨(3,es,ends,ids,cm,[],src,[],[],st,fd,op,once,fm,dm,fl),rr,?_,h1,.inl ⟨?_,?_⟩⟩
 ·unfold uD;generalize (sB f k v bad).1=pf at hp;rcases hp with rfl|rfl|rfl<;>simp only[rL,aRf,aRk,Int.reduceEq,↓reduceIte]
 ·show (3:Int)≠0;decide
 ·exact h2
omit h in
theorem KL: ¬decide ((ends.length:Int)=0)=true:=by
 have:ends.length≠0:=fun hh=>hne (aSh.1 hh);simp only[aRk];omega
theorem aFA (hf:f=0\/f=1):KK tag cms fds es ends cm fl fd ids once fm dm hs ht src st op at0 idx tz f k v bad:=by
 unfold KK uD tT;rcases hf with rfl|rfl
 ·rw[show sB 0 k v bad=(1,[],[]) from rfl];dsimp only;rw[if_neg (KL hne)];simp only[rL,aRf,aRk,Int.reduceEq,↓reduceIte];exact⟨_,_,rfl,rfl,.inr ⟨es,ids,cm,src,st,fd,op,once,fm,dm,fl,hs,ht,false,by simp,rfl,by simpa using h⟩⟩
 ·rw[show sB 1 k v bad=(2,[],[]) from rfl];dsimp only;rw[if_neg (KL hne)];simp only[rL,aRf,aRk,Int.reduceEq,↓reduceIte];exact⟨_,_,rfl,rfl,.inr ⟨es,ids,cm,src,st,fd,op,once,fm,dm,fl,hs,ht,false,by simp,rfl,by simpa using h⟩⟩
theorem R0 (hf:f=2\/f=4\/f=5\/f=6\/f=7) (hk:k.length<=4000000000) (hv:v.length<=4000000000):KK tag cms fds es ends cm fl fd ids once fm dm hs ht src st op at0 idx tz f k v bad:=by
 have hA: ∀op1,KI cm fl fd once fm dm hs ht src [] [] [] [] [] st op1 op f k v bad:=by
  intro op1;rcases hf with rfl|rfl|rfl|rfl|rfl
  ·exact aFr h.b
  ·exact aM4 h.b
  ·exact aM5 h.b
  ·exact aM6 h.b hv
  ·exact aFs h.b hk
 have hr: ∀r,tG (([],(src,([],(cm,(sQ fl,(st,(fd,()))))))),(hs,(ht,(op,())))) (f,(k,(v,(bad,()))))=some r->tT (ends,at0,idx,tag,cms,fds,es,[],src,[],cm,sQ fl,st,fd,hs,ht,op) (f,k,v,bad)=some (r.2.2.2.2.2.2.2,false,tag,cms,fds,es,[],r.1,[],r.2.1,r.2.2.1,r.2.2.2.1,r.2.2.2.2.1,r.2.2.2.2.2.1,r.2.2.2.2.2.2.1,if op<0 then at0 else op):=by
  intro r hr;unfold tT;dsimp only;rw[if_neg (KL hne),if_neg (by rcases hf with rfl|rfl|rfl|rfl|rfl<;>simp),if_pos (by rcases hf with rfl|rfl|rfl|rfl|rfl<;>simp),hr,aRf]
  by_cases ho:op<0
  ·rw[if_pos (by simpa using ho),if_pos ho]
  ·rw[if_neg (by simpa using ho),if_neg ho]
 rcases hA (if op<0 then at0 else op) with⟨h0,r,h1,h2⟩ |⟨hp,e,cm',src',st',fd',once',fm',dm',fl',hs',ht',h1,h2,h3,h4⟩
 ·exact QZ h hne (.inl h0) ⟨_,hr r h1,h2⟩
 ·refine⟨(e,es,ends,ids,cm',[],src',[],[],st',fd',(if op<0 then at0 else op),once',fm',dm',fl'),_,?_,hr _ h2,?_⟩
  ·have hpf: ¬((sB f k v bad).1=0\/(sB f k v bad).1=4\/(sB f k v bad).1=9)/\¬((sB f k v bad).1=1\/(sB f k v bad).1=2)/\¬(sB f k v bad).1=10:=by
    rw[hp];rcases hf with rfl|rfl|rfl|rfl|rfl<;>decide
   unfold uD;dsimp only;generalize (sB f k v bad).1=pf at hpf h1;obtain⟨n1,n2,n3⟩:=hpf;simp only[not_or] at n1 n2;simp only[rL,aRf,aRk,n1.1,n1.2.1,n1.2.2,n2.1,n2.2,n3,↓reduceIte];by_cases ho:op<0
   ·rw[if_pos ho] at h1⊢;rw[if_pos ho,h1];rfl
   ·rw[if_neg ho] at h1⊢;rw[if_neg ho,h1];rfl
  ·by_cases he:e=0
   ·subst he;exact .inr ⟨es,ids,cm',src',st',fd',_,once',fm',dm',fl',hs',ht',false,by simp,rfl,⟨h3,fun hh=>absurd (by simpa using hh) hne,h.id,h.en,h.ef,h.cf,h.ff⟩⟩
   ·exact .inl ⟨he,rfl⟩
theorem aNd (hk:k.length<=4000000000) (hen:ends.length<=4000000000):KK tag cms fds es ends cm fl fd ids once fm dm hs ht src st op at0 idx tz 9 k v bad:=by
 by_cases hb:bad=true\/k=[]\/200<k.length
 ·refine QZ h hne (.inl ?_) ?_
  ·rcases hb with rfl|hb
   ·rfl
   ·cases bad with
    |true=>rfl
    |false=>
     show (if k=[]\/200<k.length then((0:Int),([]:List UInt8),([]:List UInt8)) else(10,k,v)).1=0;rw[if_pos hb]
  ·unfold tT E9;dsimp only;rw[if_neg (KL hne),if_pos (show decide ((9:Int)=9)=true from rfl),if_pos (by
    rcases hb with rfl|rfl|hb
    ·rfl
    ·simp
    ·simp;exact .inr (by omega))]
   exact⟨_,rfl,rfl⟩
 ·simp only[not_or] at hb;have hb1:bad=false:=by cases bad;rfl;exact absurd rfl hb.1
  subst hb1;have hp:sB 9 k v false=(10,k,v):=by
   show (if k=[]\/200<k.length then((0:Int),([]:List UInt8),([]:List UInt8)) else(10,k,v))=_;rw[if_neg (fun hh=>hh.elim hb.2.1 hb.2.2)]
  unfold KK uD tT E9;rw[hp];dsimp only;rw[if_neg (KL hne),if_pos (show decide ((9:Int)=9)=true from rfl),if_neg (show¬((false||decide (k=[]))||decide ((200:Int)<(k.length:Int)))=true by simp [hb.2.1]<;>omega),VS (tag,(cms,(fds,(es,())))) k (by have:=h.en;dsimp only;omega),aRf,a61]
  simp only[rL,aRf,aRk,Int.reduceEq,↓reduceIte];rw[h.id k];have hen1:=h.en;by_cases hd:(es.any fun y=>decide (y.1=k))=true
  ·rw[if_pos hd,if_pos hd,aRf];exact⟨_,_,rfl,rfl,.inl ⟨(show (9:Int)≠0 by decide),rfl⟩⟩
  ·rw[if_neg hd,if_neg hd];by_cases h1000:es.length=1000
   ·rw[if_pos (show ((es.length:Int)=1000) by omega),if_pos (show ((1000:Int)<=(es.length:Int)) by omega),aRf];exact⟨_,_,rfl,rfl,.inl ⟨(show (6:Int)≠0 by decide),rfl⟩⟩
   ·have hf:=h.b.f;have hc:=h.b.c;have hd2:=h.b.d;rw[if_neg (show¬((es.length:Int)=1000) by omega),if_pos (show fl.length<4611686018427387904 by omega),if_pos (by simp only[aRj,aRs];omega),if_pos (by simp only[aRj,aRs];omega),if_neg (show¬((1000:Int)<=(es.length:Int)) by omega),if_pos (by simp only[aRs];omega),if_pos (by simp only[List.nil_append,aRj,aRs];omega),aRf];refine⟨_,_,rfl,rfl,.inr ⟨es++[(k,src,v,cm,sQ fl,st,fd,())],v7 .str .bool k true ids,[],[],0,[],-1,[],[],[],[],false,false,true,rfl,by rw[show sQ []=[] from aSh.1 (N8 [])];rfl,⟨a7e,fun hh=>(by simp at hh),aE9 h.id _ k rfl,by simp;omega,fun y hy=> ?_,h.cf,h.ff⟩⟩⟩;rcases aRO.1 hy with hy|hy
    ·exact h.ef y hy
    ·rw[aRr.1 hy];exact⟨by unfold q8;dsimp only;omega,by unfold q8;dsimp only;rw[N8];omega,by unfold q8;dsimp only;omega⟩
theorem aNe (hf0:0<=f) (hf:f<=10) (hk:k.length<=4000000000) (hv:v.length<=4000000000) (hen:ends.length<=4000000000):KK tag cms fds es ends cm fl fd ids once fm dm hs ht src st op at0 idx tz f k v bad:=by
 have:f=0\/f=1\/f=2\/f=3\/f=4\/f=5\/f=6\/f=7\/f=8\/f=9\/f=10:=by omega
 have hr:(f=3\/f=8\/f=10)->∃rr,tT (ends,at0,idx,tag,cms,fds,es,[],src,[],cm,sQ fl,st,fd,hs,ht,op) (f,k,v,bad)=some rr/\rr.1=3:=by
  intro hh;unfold tT;dsimp only;rw[if_neg (KL hne),if_neg (by rcases hh with rfl|rfl|rfl<;>simp),if_neg (by rcases hh with rfl|rfl|rfl<;>simp),if_pos (by rcases hh with rfl|rfl|rfl<;>simp)]
  exact⟨_,rfl,rfl⟩
 rcases this with rfl|rfl|rfl|rfl|rfl|rfl|rfl|rfl|rfl|rfl|rfl
 ·exact aFA h hne (.inl rfl)
 ·exact aFA h hne (.inr rfl)
 ·exact R0 h hne (.inl rfl) hk hv
 ·refine QZ h hne ?_ (hr (.inl rfl));cases bad
  ·rw[show sB 3 k v false=(if vE v=true then((4:Int),([]:List UInt8),v) else(0,[],[])) from rfl];split
   ·exact .inr (.inl rfl)
   ·exact .inl rfl
  ·exact .inl rfl
 ·exact R0 h hne (.inr (.inl rfl)) hk hv
 ·exact R0 h hne (.inr (.inr (.inl rfl))) hk hv
 ·exact R0 h hne (.inr (.inr (.inr (.inl rfl)))) hk hv
 ·exact R0 h hne (.inr (.inr (.inr (.inr rfl)))) hk hv
 ·exact QZ h hne (.inr (.inr rfl)) (hr (.inr (.inl rfl)))
 ·exact aNd h hne hk hen
 ·exact QZ h hne (.inl (by rw[ND])) (hr (.inr (.inr rfl)))
end
end Go.Proofs.YtbbpilohihldiaaGreatDoor
namespace Go.Proofs.YtbbpilohihldiaaGreatDoor
open Vc
def xV (ends:List Int) (a i:Int) (tag:List UInt8) (cms:List (List UInt8)) (fds:List rH) (es:List qQ) (src:List UInt8) (cm:List (List UInt8)) (fl:List (List UInt8)) (st:Int) (fd:List rH) (hs ht:Bool) (op:Int):RS:=
  (ends,a,i,tag,cms,fds,es,[],src,[],cm,sQ fl,st,fd,hs,ht,op)
section
variable {tag:List UInt8}{cms:List (List UInt8)}{fds:List rH}{es:List qQ}{ends:List Int}{cm:List (List UInt8)}{fl:List (List UInt8)}{fd:List rH}{ids:List (List UInt8×Bool)}{once:List (Int×Bool)}{fm dm:List (List UInt8×Bool)}{hs ht:Bool}
variable {src:List UInt8}{st op:Int}
def aNf (ends:List Int) (e:Int) (x:PS) (y:RS) (a i tz:Int):Prop:=
  ∃ tag' cms' fds' es' ends' cm' fl' fd' ids' once' fm' dm' hs' ht' src' st' op',x=A3 tag' cms' fds' es' (!decide (ends'=[])) ends' cm' src' st' fd' op' ids' once' fm' dm' fl'∧
    y=xV ends' a i tag' cms' fds' es' src' cm' fl' st' fd' hs' ht' op'∧SI tag' cms' fds' es' ends' cm' fl' fd' ids' once' fm' dm' hs' ht'∧(ends'=ends∨ends'=ends++[tz])
theorem aNg (h:SI tag cms fds es ends cm fl fd ids once fm dm hs ht) (hen:ends.length≤4000000000) {line:List UInt8}(hl:line.length≤4000000000) {a i:Nat}(ha:a≤4000000000) {ls:List (List UInt8)}(hi:i<ls.length) (hli:ls[i]=line) (hi2:i≤4000000000):
    ∃ e x,GG ((a:Int),line) (A3 tag cms fds es (!decide (ends=[])) ends cm src st fd op ids once fm dm fl)=some (e,x)∧
      ((e≠0∧xP ls (xV ends a i tag cms fds es src cm fl st fd hs ht op)=some (.inr (.inr ([],[],[],[],[],(a:Int),e))))∨
       (e=0∧∃y,xP ls (xV ends a i tag cms fds es src cm fl st fd hs ht op)=some (.inl y)∧aNf ends e x y ((a:Int)+(line.length:Int)) ((i:Int)+1) ((a:Int)+(line.length:Int)))):=by
  obtain⟨f,k,v,bad,h1,h2,h3,h4,h5,h6⟩:=aM0 hl;have hto:pP ((a:Int)+(line.length:Int)):=by unfold pP;omega
  rw[aFv (b:=xV ends a i tag cms fds es src cm fl st fd hs ht op) (i:=i) rfl hi (by omega) (by rw[hli];exact hto),hli,h1,aRf];have hfl:q8 line:=by unfold q8;omega
  have h2':AS (Lib.trimLeftS (vF 10 line) [32,9])=some (sB f k v bad):=h2;by_cases hne:ends=[]
  · subst hne
    obtain⟨rp,rr,g1,g2,g3⟩:=aNb (src:=src) (st:=st) (op:=op) (tz:=(a:Int)+(line.length:Int)) (bad:=bad) h h5 h6 h3 h4
    have hc:GG ((a:Int),line) (A3 tag cms fds es (!decide (([]:List Int)=[])) [] cm src st fd op ids once fm dm fl)=some (rp.1,rp.2.1,rp.2.2.1,rp.2.2.2.1,es,rp.2.2.2.2.1,rp.2.2.2.2.2.1,rp.2.2.2.2.2.2.1,rp.2.2.2.2.2.2.2.1,rp.2.2.2.2.2.2.2.2.1,rp.2.2.2.2.2.2.2.2.2.1,rp.2.2.2.2.2.2.2.2.2.2.1,rp.2.2.2.2.2.2.2.2.2.2.2.1,rp.2.2.2.2.2.2.2.2.2.2.2.2.1,rp.2.2.2.2.2.2.2.2.2.2.2.2.2.1,ids,rp.2.2.2.2.2.2.2.2.2.2.2.2.2.2.1,rp.2.2.2.2.2.2.2.2.2.2.2.2.2.2.2.1,rp.2.2.2.2.2.2.2.2.2.2.2.2.2.2.2.2.1,rp.2.2.2.2.2.2.2.2.2.2.2.2.2.2.2.2.2):=by
      unfold GG A3;dsimp only;rw[a68 hfl,aRf,h2',aRf,if_neg (by simp),if_pos hto];rw[show (!decide (([]:List Int)=[]))=false by simp,g1,aRf]
    have hr:tT (xV [] a i tag cms fds es src cm fl st fd hs ht op) (f,k,v,bad)=some (rr.2.2.2.2.2.2.2.2.2.2.2.2.2.2,rr.2.2.2.2.2.2.2.2.2.2.2.2.2.1,rr.1,rr.2.1,rr.2.2.1,es,rr.2.2.2.1,rr.2.2.2.2.1,rr.2.2.2.2.2.1,rr.2.2.2.2.2.2.1,rr.2.2.2.2.2.2.2.1,rr.2.2.2.2.2.2.2.2.1,rr.2.2.2.2.2.2.2.2.2.1,rr.2.2.2.2.2.2.2.2.2.2.1,rr.2.2.2.2.2.2.2.2.2.2.2.1,rr.2.2.2.2.2.2.2.2.2.2.2.2.1):=by
      unfold tT xV;dsimp only;rw[if_pos (by simp),g2,aRf]
    refine⟨_,_,hc,?_⟩;rw[hr,aRf];rcases g3 with⟨e1,e2⟩ |⟨tag',cms',fds',cm',src',st',fd',op',once',fm',dm',fl',hs',ht',dn,rfl,rfl,hS⟩
    · dsimp only
      rw[e2,if_pos (by simpa using e1)];exact .inl ⟨e1,rfl⟩
    · dsimp only
      rw[if_neg (show¬(!decide ((0:Int)=0))=true by decide)];cases dn with
      | true=>
        rw[if_pos rfl,if_pos (by show ((xV [] (a:Int) (i:Int) tag cms fds es src cm fl st fd hs ht op).1.length+1)*8≤_;unfold xV;simp)];exact .inr ⟨rfl,_,rfl,tag',cms',fds',es,[(a:Int)+(line.length:Int)],cm',fl',fd',ids,once',fm',dm',hs',ht',src',st',op',rfl,rfl,hS,.inr rfl⟩
      | false=>
        rw[if_neg aRV];exact .inr ⟨rfl,_,rfl,tag',cms',fds',es,[],cm',fl',fd',ids,once',fm',dm',hs',ht',src',st',op',rfl,rfl,hS,.inl rfl⟩
  · obtain⟨rp,rr,g1,g2,g3⟩:=aNe (src:=src) (st:=st) (op:=op) (at0:=(a:Int)) (idx:=(i:Int)) (tz:=(a:Int)+(line.length:Int)) (bad:=bad) h hne h5 h6 h3 h4 hen
    have hin:(!decide (ends=[]))=true:=by simpa using hne
    have hc:GG ((a:Int),line) (A3 tag cms fds es (!decide (ends=[])) ends cm src st fd op ids once fm dm fl)=some (rp.1,tag,cms,fds,rp.2.1,true,rp.2.2.1,rp.2.2.2.2.1,rp.2.2.2.2.2.1,rp.2.2.2.2.2.2.1,rp.2.2.2.2.2.2.2.1,rp.2.2.2.2.2.2.2.2.1,rp.2.2.2.2.2.2.2.2.2.1,rp.2.2.2.2.2.2.2.2.2.2.1,rp.2.2.2.2.2.2.2.2.2.2.2.1,rp.2.2.2.1,rp.2.2.2.2.2.2.2.2.2.2.2.2.1,rp.2.2.2.2.2.2.2.2.2.2.2.2.2.1,rp.2.2.2.2.2.2.2.2.2.2.2.2.2.2.1,rp.2.2.2.2.2.2.2.2.2.2.2.2.2.2.2):=by
      rw[hin];unfold GG A3;dsimp only;rw[a68 hfl,aRf,h2',aRf,if_pos rfl,if_pos hto,g1,aRf]
    refine⟨_,_,hc,?_⟩;have g2':tT (xV ends a i tag cms fds es src cm fl st fd hs ht op) (f,k,v,bad)=some rr:=g2;rw[g2',aRf];rcases g3 with⟨e1,e2⟩ |⟨es',ids',cm',src',st',fd',op',once',fm',dm',fl',hs',ht',dn,rfl,rfl,hS⟩
    · rw[e2,if_pos (by simpa using e1)]
      exact .inl ⟨e1,rfl⟩
    · dsimp only
      rw[if_neg (show¬(!decide ((0:Int)=0))=true by decide)];cases dn with
      | true=>
        rw[if_pos rfl,if_pos (by show ((xV ends (a:Int) (i:Int) tag cms fds es src cm fl st fd hs ht op).1.length+1)*8≤_;unfold xV;dsimp only;omega)];exact .inr ⟨rfl,_,rfl,tag,cms,fds,es',ends++[(a:Int)+(line.length:Int)],cm',fl',fd',ids',once',fm',dm',hs',ht',src',st',op',by rw[show (!decide (ends++[(a:Int)+(line.length:Int)]=[]))=true by simp];rfl,rfl,hS,.inr rfl⟩
      | false=>
        rw[if_neg aRV];have he:ends++(if false=true then[(a:Int)+(line.length:Int)] else[])=ends:=by simp
        rw[he] at hS⊢;exact .inr ⟨rfl,_,rfl,tag,cms,fds,es',ends,cm',fl',fd',ids',once',fm',dm',hs',ht',src',st',op',by rw[hin];rfl,rfl,hS,.inl rfl⟩
end
def aFB (s:List UInt8) (ls:List (List UInt8)) (l:List (Int×List UInt8)) (x:PS) (y:RS):Prop:=
  (∃e at1:Int,e≠0∧vX I9 l x=none∧vX IA l x=some (.inr (at1,e))∧qM (xP ls) y=some (.inr ([],[],[],[],[],at1,e)))∨
  (∃tag' cms' fds' es' ends' cm' fl' fd' ids' once' fm' dm' hs' ht' src' st' op',vX I9 l x=some (.inl (A3 tag' cms' fds' es' (!decide (ends'=[])) ends' cm' src' st' fd' op' ids' once' fm' dm' fl'))∧
    vX IA l x=some (.inl (A3 tag' cms' fds' es' (!decide (ends'=[])) ends' cm' src' st' fd' op' ids' once' fm' dm' fl'))∧
    qM (xP ls) y=some (.inl (ends',tag',cms',fds',es',[],src',[],cm',sQ fl',st',fd',hs',ht',op'))∧SI tag' cms' fds' es' ends' cm' fl' fd' ids' once' fm' dm' hs' ht'∧(ends'=[]∨IG s.length ends')∧ends'.length≤s.length)
theorem sim {s:List UInt8}(hs0:s.length≤4000000000): ∀(n a i:Nat) {tag:List UInt8}{cms:List (List UInt8)}{fds:List rH}{es:List qQ}{ends:List Int}{cm:List (List UInt8)}{fl:List (List UInt8)}{fd:List rH}{ids:List (List UInt8×Bool)}{once:List (Int×Bool)}{fm dm:List (List UInt8×Bool)}{hs ht:Bool}{src:List UInt8}{st op:Int},
    a≤s.length→s.length≤n+a→(uS s).drop i=t6 s n a→i≤a→SI tag cms fds es ends cm fl fd ids once fm dm hs ht→(ends=[]∨IG a ends)→ends.length≤i→
    aFB s ((uS s).map (·.2)) (t6 s n a) (A3 tag cms fds es (!decide (ends=[])) ends cm src st fd op ids once fm dm fl) (xV ends a i tag cms fds es src cm fl st fd hs ht op):=by
  intro n
  induction n with
  | zero=>
    intro a i tag cms fds es ends cm fl fd ids once fm dm hs ht src st op ha hn hd hia h hea hei
    have hlen:(uS s).length≤i:=by
      have:=aRN List.length hd;rw[aRy,show t6 s 0 a=[] from rfl,aRs] at this;omega
    have hst:xP ((uS s).map (·.2)) (xV ends a i tag cms fds es src cm fl st fd hs ht op)=some (.inr (.inl (ends,tag,cms,fds,es,[],src,[],cm,sQ fl,st,fd,hs,ht,op))):=by
      unfold xP xV;dsimp only;rw[if_neg (by simp;omega)]
    refine .inr ⟨tag,cms,fds,es,ends,cm,fl,fd,ids,once,fm,dm,hs,ht,src,st,op,rfl,rfl,uV hst,h,?_,by omega⟩;rcases hea with h1|h1
    ·exact .inl h1
    ·exact .inr (a62 h1 ha)
  | succ n ih=>
    intro a i tag cms fds es ends cm fl fd ids once fm dm hs ht src st op ha hn hd hia h hea hei;by_cases hlt:a<s.length
    · have hto:=a0r hlt
      have hl:t6 s (n+1) a=((a:Int),(s.drop a).take (sZ s a-a))::t6 s n (sZ s a):=by rw[t6,if_pos hlt]
      rw[hl] at hd⊢
      have hil:i<(uS s).length:=by
        have:=aRN List.length hd;rw[aRy,aRj] at this;omega
      have hget:(uS s)[i]=((a:Int),(s.drop a).take (sZ s a-a)):=by
        have:=aRC hil;rw[hd] at this;exact(List.cons.inj this).1.symm
      have hd2:(uS s).drop (i+1)=t6 s n (sZ s a):=by
        have:=aRC hil;rw[hd] at this;exact(List.cons.inj this).2.symm
      have hlen:((s.drop a).take (sZ s a-a)).length=sZ s a-a:=by rw[aRH,aRy];omega
      have hi2:i<((uS s).map (·.2)).length:=by rw[aSq];exact hil
      have hli:((uS s).map (·.2))[i]=(s.drop a).take (sZ s a-a):=by rw[List.getElem_map,hget]
      obtain⟨e,x,hc,hres⟩:=aNg (src:=src) (st:=st) (op:=op) h (by omega) (line:=(s.drop a).take (sZ s a-a)) (by omega) (a:=a) (i:=i) (by omega) hi2 hli (by omega);rcases hres with⟨he,hr⟩ |⟨rfl,y,hr,tag',cms',fds',es',ends',cm',fl',fd',ids',once',fm',dm',hs',ht',src',st',op',rfl,rfl,hS,hE⟩
      · refine .inl ⟨e,(a:Int),he,?_,?_,uV hr⟩
        · unfold vX
          rw[aFt,hc,aRf,if_pos (by simpa using he)];rfl
        · unfold vX
          rw[aFu,hc,aRf,if_pos (by simpa using he)];rfl
      · have hto2:(a:Int)+(((s.drop a).take (sZ s a-a)).length:Int)=((sZ s a:Nat):Int):=by rw[hlen];omega
        rw[hto2] at hr hE
        have hnext:=ih (sZ s a) (i+1) (src:=src') (st:=st') (op:=op') hto.2 (by omega) hd2 (by omega) hS (by
          rcases hE with rfl|rfl
          · rcases hea with h1|h1
            ·exact .inl h1
            ·exact .inr (a62 h1 (by omega))
          · rcases hea with rfl|h1
            ·exact .inr (aMG _)
            ·exact .inr (aMF h1 (by omega))) (by
          rcases hE with rfl|rfl
          ·omega
          ·simp;omega)
        have hr2:qM (xP ((uS s).map (·.2))) (xV ends a i tag cms fds es src cm fl st fd hs ht op)=qM (xP ((uS s).map (·.2))) (xV ends' (sZ s a:Nat) ((i+1:Nat):Int) tag' cms' fds' es' src' cm' fl' st' fd' hs' ht' op'):=BF hr
        have f1:vX I9 (((a:Int),(s.drop a).take (sZ s a-a))::t6 s n (sZ s a)) (A3 tag cms fds es (!decide (ends=[])) ends cm src st fd op ids once fm dm fl)=vX I9 (t6 s n (sZ s a)) (A3 tag' cms' fds' es' (!decide (ends'=[])) ends' cm' src' st' fd' op' ids' once' fm' dm' fl'):=by
          rw[vX,aFt,hc,aRf];dsimp only;rw[if_neg (show¬(!decide ((0:Int)=0))=true by decide)];rfl
        have f2:vX IA (((a:Int),(s.drop a).take (sZ s a-a))::t6 s n (sZ s a)) (A3 tag cms fds es (!decide (ends=[])) ends cm src st fd op ids once fm dm fl)=vX IA (t6 s n (sZ s a)) (A3 tag' cms' fds' es' (!decide (ends'=[])) ends' cm' src' st' fd' op' ids' once' fm' dm' fl'):=by
          rw[vX,aFu,hc,aRf];dsimp only;rw[if_neg (show¬(!decide ((0:Int)=0))=true by decide)];rfl
        unfold aFB at hnext⊢;rw[f1,f2,hr2];exact hnext
    · have hl:t6 s (n+1) a=t6 s 0 a:=by rw[GF (by omega),GF (by omega)]
      have hlen:(uS s).length≤i:=by
        rw[hl] at hd;have:=aRN List.length hd;rw[aRy,show t6 s 0 a=[] from rfl,aRs] at this;omega
      have hst:xP ((uS s).map (·.2)) (xV ends a i tag cms fds es src cm fl st fd hs ht op)=some (.inr (.inl (ends,tag,cms,fds,es,[],src,[],cm,sQ fl,st,fd,hs,ht,op))):=by
        unfold xP xV;dsimp only;rw[if_neg (by simp;omega)]
      rw[hl];refine .inr ⟨tag,cms,fds,es,ends,cm,fl,fd,ids,once,fm,dm,hs,ht,src,st,op,rfl,rfl,uV hst,h,?_,by omega⟩;rcases hea with h1|h1
      ·exact .inl h1
      ·exact .inr (a62 h1 ha)
theorem VW {s:List UInt8}(hs0:s.length≤4000000000): ∃v,DE s=some v∧q8 v.2.1∧q8 v.2.2.1∧q8 v.2.2.2.1∧(∀y∈v.2.2.2.1,N9 y)∧
    ((v.2.2.2.2.2.2≠0∧v.1=[]∧v.2.1=[]∧v.2.2.1=[]∧v.2.2.2.1=[]∧t8 s=none∧G7 s=some (v.2.2.2.2.2.1,v.2.2.2.2.2.2))∨
     (v.2.2.2.2.2.2=0∧v.2.2.2.2.2.1=0∧IG s.length v.2.2.2.2.1∧v.2.2.2.2.1.length≤s.length∧∃r,t8 s=some r∧r.1=v.1∧r.2.1=v.2.1∧r.2.2.1=v.2.2.1∧r.2.2.2.1=v.2.2.2.1∧r.2.2.2.2.2.1=v.2.2.2.2.1)):=by
  have hSI:SI [] [] [] [] [] [] [] [] [] [] [] [] false false:=⟨a7e,fun _=>rfl,fun _=>rfl,by decide,fun _ hh=>by(cases hh),DG,DG⟩;have hsim:=sim hs0 s.length 0 0 (src:=[]) (st:=0) (op:= -1) (aSg _) (by omega) (by rw[aSk];rfl) (Nat.le_refl _) hSI (.inl rfl) (Nat.le_refl _);have hs4:sQ []=[]:=aSh.1 (N8 [])
  have hx:A3 [] [] [] [] (!decide (([]:List Int)=[])) [] [] [] 0 [] (-1) [] [] [] [] []=(([]:List UInt8),([]:List (List UInt8)),([]:List qB),([]:List qQ),false,([]:List Int),([]:List (List UInt8)),([]:List UInt8),([]:List UInt8),([]:List UInt8),([]:List (List UInt8)),(0:Int),([]:List qB),(-1:Int),([]:List ((List UInt8)×Bool)),([]:List (Int×Bool)),([]:List ((List UInt8)×Bool)),([]:List ((List UInt8)×Bool)),([]:List (List UInt8))):=by
    rw[show (!decide (([]:List Int)=[]))=false by simp];rfl
  have hy:xV [] (0:Nat) (0:Nat) [] [] [] [] [] [] [] 0 [] false false (-1)=(([]:List Int),(0:Int),(0:Int),([]:List UInt8),([]:List (List UInt8)),([]:List qB),([]:List qQ),([]:List UInt8),([]:List UInt8),([]:List UInt8),([]:List (List UInt8)),([]:List (List UInt8)),(0:Int),([]:List qB),false,false,(-1:Int)):=by
    unfold xV;rw[hs4];rfl
  rw[hx,hy] at hsim;have hlI:t6 s s.length 0=uS s:=rfl;rw[hlI] at hsim;unfold DE t8 G7;rw[QX (by omega),aRf,if_pos (by omega),if_pos (by omega)];rcases hsim with⟨e,at1,he,h1,h2,h3⟩ |⟨tag',cms',fds',es',ends',cm',fl',fd',ids',once',fm',dm',hs',ht',src',st',op',h1,h2,h3,h4,h5,h6⟩
  · rw[h1,h2,h3]
    exact⟨_,rfl,DG,DG,DG,fun _ hh=>by(cases hh),.inl ⟨he,rfl,rfl,rfl,rfl,rfl,rfl⟩⟩
  · rw[h1,h2,h3]
    unfold A3;simp only[sN,aRf];by_cases hn:ends'=[]
    · rw[if_pos (by rw[hn];rfl),if_pos (by rw[hn];rfl),if_pos (by rw[hn];rfl)]
      exact⟨_,rfl,DG,DG,DG,fun _ hh=>by(cases hh),.inl ⟨show (3:Int)≠0 by decide,rfl,rfl,rfl,rfl,rfl,rfl⟩⟩
    · have hl0: ¬decide ((ends'.length:Int)=0)=true:=KL hn
      have hd:(!(!decide (ends'=[])))=false:=by simpa using hn
      rw[if_neg hl0,hd];simp only[aSf,↓reduceIte];by_cases ho:decide (0≤op')=true
      · simp only[ho,↓reduceIte]
        exact⟨_,rfl,DG,DG,DG,fun _ hh=>by(cases hh),.inl ⟨show (3:Int)≠0 by decide,(by first|rfl|trivial),(by first|rfl|trivial),(by first|rfl|trivial),(by first|rfl|trivial),(by first|rfl|trivial),(by first|rfl|trivial)⟩⟩
      · simp only[ho,aSf,↓reduceIte]
        have hen:=h4.en;exact⟨_,rfl,h4.cf,h4.ff,by unfold q8;dsimp only;omega,h4.ef,.inr ⟨(by first|rfl|trivial),(by first|rfl|trivial),h5.resolve_left hn,h6,_,rfl,(by first|rfl|trivial),(by first|rfl|trivial),(by first|rfl|trivial),(by first|rfl|trivial),(by first|rfl|trivial)⟩⟩
theorem VX {s:List UInt8}(hs0:s.length≤4000000000): ∃v,xR s=some v∧K6 s=some v∧q8 v.2.1∧q8 v.2.2.1∧q8 v.2.2.2.1∧∀y∈v.2.2.2.1,N9 y:=by
  obtain⟨v,h1,f1,f2,f3,f4,h⟩:=VW hs0;unfold xR K6;rw[h1,aRf];refine⟨_,?_,rfl,f1,f2,f3,f4⟩;rcases h with⟨he,v1,v2,v3,v4,p1,p2⟩ |⟨he,ha,_,_,r,p1,q1,q2,q3,q4,_⟩
  ·rw[p1,if_neg (by simp),p2,aRf,if_pos (by simpa using he),v1,v2,v3,v4]
  ·rw[p1,if_pos (show (some r).isSome=true from rfl),aRf,if_neg (show¬(!decide ((0:Int)=0))=true by decide),q1,q2,q3,q4,he,ha]
set_option maxRecDepth 1000000
def LN (s:List UInt8):List (List UInt8):=(uS s).map (·.2)
inductive WL:List (List UInt8)->Prop
 |nil:WL []
 |one {u:List UInt8}(h:u≠[]) (hu:(10:UInt8)∉u):WL [u]
 |cons {u:List UInt8}{l:List (List UInt8)}(hu:(10:UInt8)∉u) (h:WL l):WL ((u++[10])::l)
theorem aFC {s:List UInt8}: ∀(n m i:Nat),s.length<=n+i->s.length<=m+i->t6 s n i=t6 s m i
 |0,m,i,hn,_=>by rw[GF (by omega),GF (by omega)]
 |n+1,0,i,_,hm=>by rw[GF (by omega),GF (by omega)]
 |n+1,m+1,i,hn,hm=>by
  rw[t6,t6];by_cases h:i<s.length
  ·have:=a0r h;rw[if_pos h,if_pos h,aFC n m (sZ s i) (by omega) (by omega)]
  ·rw[if_neg h,if_neg h]
theorem aNi {a s:List UInt8}{i:Nat}:sZ (a++s) (a.length+i)=a.length+sZ s i:=by
 have hd:(a++s).drop (a.length+i)=s.drop i:=by rw[List.drop_append];simp
 unfold sZ;rw[hd,aRh];split
 ·omega
 ·omega
theorem aFD {a s:List UInt8}: ∀(n i:Nat),(t6 (a++s) n (a.length+i)).map (·.2)=(t6 s n i).map (·.2)
 |0,i=>rfl
 |n+1,i=>by
  have hd:(a++s).drop (a.length+i)=s.drop i:=by rw[List.drop_append];simp
  rw[t6,t6,aNi,hd,aRh];by_cases h:i<s.length
  ·rw[if_pos (by omega),if_pos h,aR2,aR2,aFD n (sZ s i)];rw[show a.length+sZ s i- (a.length+i)=sZ s i-i by omega]
  ·rw[if_neg (by omega),if_neg h]
theorem aFE {u t:List UInt8}(hu:(10:UInt8)∉u):LN (u++[10]++t)=(u++[10])::LN t:=by
 have hlen:(u++[10]++t).length=u.length+1+t.length:=by simp;omega
 have hto:sZ (u++[10]++t) 0=u.length+1:=aFj (aSg _) (by omega) (fun j h _ h1 hh=>hu (by
  have h9:(u++[10]++t)[j]=u[j]'(by omega):=by simp [List.getElem_append,show j<u.length by omega,show j<u.length+1 by omega]
  rw[h9] at hh;rw[<-hh];exact aSa _)) (by simp [List.getElem_append])
 unfold LN uS;rw[hlen,show u.length+1+t.length=(u.length+t.length)+1 by omega,t6,if_pos (by omega),hto,aR2];have h2:=aFD (a:=u++[10]) (s:=t) (u.length+t.length) 0;have h3:(u++[10]:List UInt8).length=u.length+1:=by simp
 rw[aSG,h3] at h2;rw[h2,aFC (u.length+t.length) t.length 0 (by omega) (by omega)];congr 1;rw[aSk,Nat.sub_zero,List.take_left' (by simp)]
theorem aFF {u:List UInt8}(h:u≠[]) (hu:(10:UInt8)∉u):LN u=[u]:=by
 have hto:sZ u 0=u.length:=aFk (fun j hj _ hh=>hu (by rw[<-hh];exact aSa _));have hpos:0<u.length:=aSI.2 h;unfold LN uS;obtain⟨n,hn⟩: ∃n,u.length=n+1:=⟨u.length-1,by omega⟩;rw[hn,t6,if_pos hpos,hto,GF (Nat.le_refl _)];simp
theorem aFG {l:List (List UInt8)}(h:WL l):LN l.flatten=l:=by
 induction h with
 |nil=>rfl
 |one h hu=>rw[List.flatten_singleton];exact aFF h hu
 |cons hu _ ih=>rw[aRS,aFE hu,ih]
theorem VY: ∀(n:Nat) (s:List UInt8),s.length<=n->WL (LN s)/\(LN s).flatten=s:=by
 intro n
 induction n with
 |zero=>
  intro s h;obtain rfl:=aSh.1 (Nat.le_zero.1 h);exact⟨.nil,rfl⟩
 |succ n ih=>
  intro s h;by_cases h10:(10:UInt8)∈s
  ·obtain⟨u,t,rfl,hu⟩:=List.eq_append_cons_of_mem h10;have he:u++10::t=u++[10]++t:=by simp
   obtain⟨h1,h2⟩:=ih t (by simp at h;omega);rw[he,aFE hu];exact⟨.cons hu h1,by rw[aRS,h2]⟩
  ·by_cases hne:s=[]
   ·subst hne;exact⟨.nil,rfl⟩
   ·rw[aFF hne h10];exact⟨.one hne h10,by simp⟩
def CH (x:List UInt8):Prop:= ∃u:List UInt8,(10:UInt8)∉u/\x=u++[10]
theorem NE {l:List (List UInt8)}(h:WL l): ∀{xs:List (List UInt8)},(∀x∈xs,CH x)->WL (xs++l)
 |[],_=>h
 |x::xs,hx=>by
  obtain⟨u,hu,rfl⟩:=hx x aRB;exact .cons hu (NE h (fun y hy=>hx y (aRt _ hy)))
abbrev FR:=(List Int)×(List UInt8)×(List (List UInt8))×(List qB)×(List qQ)×(List UInt8)×(List UInt8)×(List UInt8)×(List (List UInt8))×(List (List UInt8))×Int×(List qB)×Bool×Bool×Int
abbrev ER7:=(List UInt8)×(List (List UInt8))×(List qB)×(List qQ)×(List Int)×Int×Int
noncomputable def uT (line:List UInt8) (b:RS):Option (RS⊕ER7):=
  (u7 line).bind fun q=>(tT b q).bind fun r=>
     if (!decide (r.1=(0:Int)))=true then
      some (.inr ([],[],[],[],[],b.2.1,r.1))
     else
      if r.2.1=true then
       if (b.1.length+1)*8≤140737488355328 then
         some (.inl (b.1++[b.2.1+(line.length:Int)],b.2.1+(line.length:Int),b.2.2.1+1,r.2.2))
       else none
      else
        some (.inl (b.1,b.2.1+(line.length:Int),b.2.2.1+1,r.2.2))
noncomputable def sL:List (List UInt8)→RS→Option (FR⊕ER7)
  |[],b=>some (.inl (b.1,b.2.2.2))
  | l::ls,b=>(uT l b).bind fun w=>match w with
    | .inl b'=>sL ls b'
    | .inr e=>some (.inr e)
theorem aNj {l:List UInt8}{b b':RS}(h:uT l b=some (.inl b')):b'.2.1=b.2.1+(l.length:Int)∧b'.2.2.1=b.2.2.1+1:=by
  unfold uT at h;cases hp:u7 l with
  |none=>rw[hp] at h;cases h
  | some q=>
    rw[hp,aRf] at h;cases hr:tT b q with
    |none=>rw[hr] at h;cases h
    | some r=>
      rw[hr,aRf] at h;by_cases h1:(!decide (r.1=(0:Int)))=true
      ·rw[if_pos h1] at h;cases h
      · rw[if_neg h1] at h
        by_cases h2:r.2.1=true
        · rw[if_pos h2] at h
          split at h
          ·cases h;exact⟨rfl,rfl⟩
          ·cases h
        · rw[if_neg h2] at h
          cases h;exact⟨rfl,rfl⟩
theorem a7i {L:List (List UInt8)}(hL:L.length≤4000000000): ∀(ls:List (List UInt8)) (i:Nat) (b:RS),L.drop i=ls→b.2.2.1=(i:Int)→0≤b.2.1→b.2.1+(ls.flatten.length:Int)≤4000000000→qM (xP L) b=sL ls b
  | [],i,b,hd,hi,h0,h1=>by
    have hlen:L.length≤i:=by
      have:=aRN List.length hd;rw[aRy,aRs] at this;omega
    obtain⟨b1,b2,b3,b4,b5,b6,b7,b8,b9,b10,b11,b12,b13,b14,GC,b16,b17⟩:=b;dsimp only at hi;subst hi;refine uV ?_;unfold xP;dsimp only;rw[if_neg (by simp;omega)]
  | l::ls,i,b,hd,hi,h0,h1=>by
    have hil:i<L.length:=by
      have:=aRN List.length hd;rw[aRy,aRj] at this;omega
    have hc:=aRC hil;rw[hd] at hc;obtain⟨rfl,h2⟩:=List.cons.inj hc;rw[aRS,aRh] at h1;have hst:=aFv (b:=b) hi hil (by omega) (by unfold pP;omega);rw[yV,hst,sL];unfold uT;rw[hi];cases hp:u7 L[i] with
    |none=>rfl
    | some q=>
      rw[aRf,aRf];cases hr:tT b q with
      |none=>rfl
      | some r=>
        rw[aRf,aRf];by_cases g1:(!decide (r.1=(0:Int)))=true
        · rw[if_pos g1,if_pos g1]
          rfl
        · rw[if_neg g1,if_neg g1]
          by_cases g2:r.2.1=true
          · rw[if_pos g2,if_pos g2]
            by_cases g3:(b.1.length+1)*8≤140737488355328
            · rw[if_pos g3,if_pos g3,aRf,aRf]
              exact a7i hL ls (i+1) _ h2.symm (by dsimp only;omega) (by dsimp only;omega) (by dsimp only;omega)
            · rw[if_neg g3,if_neg g3]
              rfl
          · rw[if_neg g2,if_neg g2,aRf,aRf]
            exact a7i hL ls (i+1) _ h2.symm (by dsimp only;omega) (by dsimp only;omega) (by dsimp only;omega)
theorem aFH {x:qQ}{hs ht:Bool}{op op':Int}{r:HH}:tG (x,(hs,(ht,(op,())))) r=tG (x,(hs,(ht,(op',())))) r:=by
 unfold tG;rfl
def QR (b b':RS):Prop:=
 ∃ends ends' a a' i i' tag cms fds es x1 src x2 cm fl st fd hs ht op op',b=(ends,a,i,tag,cms,fds,es,x1,src,x2,cm,fl,st,fd,hs,ht,op)/\b'=(ends',a',i',tag,cms,fds,es,x1,src,x2,cm,fl,st,fd,hs,ht,op')/\
  ends.length=ends'.length/\0<=a/\0<=a'/\(op<0↔op'<0)
theorem skip {l:List UInt8}{f:Int}(hf:f=0\/f=1) (hp:u7 l=some (f,[],[],false)) {b:RS}(h0:0<=b.2.1): ∃c,uT l b=some (.inl c)/\QR b c:=by
 obtain⟨ends,a,i,tag,cms,fds,es,x1,src,x2,cm,fl,st,fd,hs,ht,op⟩:=b;dsimp only at h0;have hr:tT (ends,a,i,tag,cms,fds,es,x1,src,x2,cm,fl,st,fd,hs,ht,op) (f,[],[],false)=some (0,false,tag,cms,fds,es,x1,src,x2,cm,fl,st,fd,hs,ht,op):=by
  unfold tT xG;dsimp only;rcases hf with rfl|rfl
  ·simp only[rL,aRf,aRk,Int.reduceEq,Int.reduceLT,↓reduceIte];split<;>rfl
  ·simp only[rL,aRf,aRk,Int.reduceEq,Int.reduceLT,↓reduceIte];split<;>rfl
 refine⟨(ends,a+(l.length:Int),i+1,tag,cms,fds,es,x1,src,x2,cm,fl,st,fd,hs,ht,op),?_,_,_,_,_,_,_,_,_,_,_,_,_,_,_,_,_,_,_,_,_,_,rfl,rfl,rfl,h0,by omega,Iff.rfl⟩;unfold uT;rw[hp,aRf,hr,aRf];rfl
def BQ:RS:=([],0,0,[],[],[],[],[],[],[],[],[],0,[],false,false,-1)
theorem aNk (s:List UInt8):(LN s).flatten.length=s.length:=by rw[(VY s.length s (Nat.le_refl _)).2]
theorem VZ {s:List UInt8}(hs:s.length<=4000000000):qM (xP (LN s)) BQ=sL (LN s) BQ:=by
 have hl:(LN s).length<=s.length:=by
  unfold LN;rw[aSq];exact aFn s _ _
 refine a7i (by omega) (LN s) 0 BQ (by rw[aSk]) rfl (aSi _) ?_;rw[aNk];show (0:Int)+(s.length:Int)<=4000000000;omega
theorem wR {p:Prop}{α:Type}{v:α}:p->(some v).isSome=true:=fun _=>rfl
theorem W3 {ρ:Type}{f:Int->Option (Int⊕(Unit⊕ρ))}{n:Nat}(p:Nat->Bool) (g:Nat->ρ)
  (hf: ∀(i:Nat),i<n->f i=if p i=true then some (.inr (.inr (g i))) else some (.inl (i+1)))
  (he:f n=some (.inr (.inl ()))):qM f 0=some (vD (fun k=> .inr (g k)) (.inl ()) ((List.range n).findIdx? p)):=by
 refine AN (l:=List.range n) p g (fun i h=> ?_) (by rw[List.length_range];exact he);have hi:i<n:=by rw[List.length_range] at h;exact h
 rw[List.getElem_range];exact hf i hi
theorem a7j (a b:List UInt8):(!Op.bytesLess a b)=(Op.bytesLess b a||decide (b=a)):=by
 rw[bytesLess_eq,bytesLess_eq,aSz];simp only[aRK,aRU,aSu,aRk];constructor
 ·intro h;exact(List.le_iff_lt_or_eq.1 (List.not_lt.1 h))
 ·rintro(h|h)
  ·exact List.lt_asymm h
  ·rw[h];exact List.lt_irrefl _
theorem W4 {n:Nat}{p:Nat->Bool}{b:Bool}:sN (some (vD (fun _=>Sum.inr false) (Sum.inl ()) ((List.range n).findIdx? p))) (fun _:Unit=>some b)=some (!((List.range n).any p)&&b):=by
 rw[IB];cases(List.range n).any p<;>rfl
def vY (l:List (List UInt8)):Bool:=decide ((l.length:Int)<=20)&& !(l.any fun x=> !sD x)
theorem aNl {α:Type}{l:List α}{p:α->Bool}{b:Bool}:sN (some (vD (fun _=>Sum.inr false) (Sum.inl ()) (l.findIdx? p))) (fun _:Unit=>some b)=some (!(l.any p)&&b):=by
 rw[IB];cases l.any p<;>rfl
theorem aNm (l:List (List UInt8)) (hl:q8 l) (hx: ∀x∈l,q8 x):CE l=some (vY l):=by
 unfold q8 at hl;have h:=AN (f:=QB l) (l:=l) (fun x=> !sD x) (fun _=>false) (fun i h=>by
  obtain⟨h1,h2⟩:=ID l[i] (hx _ (aSa h));unfold QB;rw[if_pos (tO h),if_pos (sA h),y5 (t:= .str) h,h1,aRf,h2,if_pos (tC (by omega))]) (by
  unfold QB;rw[if_neg (vI _)])
 unfold CE;rw[h,aNl,vY,Bool.and_comm]
theorem aNn (l:List (List UInt8)) (hl:q8 l) (hx: ∀x∈l,q8 x):AR l=some (l.any fun x=> !sD x):=by
 unfold q8 at hl;have h:=AN (f:=QA l) (l:=l) (fun x=> !sD x) (fun k=>(k:Int)) (fun i h=>by
  have h1:=N2 l[i] (hx _ (aSa h));unfold QA Q6;rw[if_pos (tO h),if_pos (sA h),y5 (t:= .str) h,h1,aRf,aRf,if_pos (tC (by omega))];rfl) (by
  unfold QA;rw[if_neg (vI _)])
 unfold AR MN;rw[h,G8];show some (decide _)=_;rw[aLK]
theorem aFI (l:List (List UInt8)) (hl:q8 l) (hx: ∀x∈l,q8 x):K1 l=some ()/\((decide ((l.length:Int)<=20))&&(!(val (AR l))))=vY l:=by
 unfold K1;rw[aNn l hl hx];exact⟨if_pos wR,rfl⟩
def R1 (l:List (List UInt8)) (i:Nat):Bool:=(!sU (l.getD i []))||(decide (0<i)&& !Op.bytesLess (l.getD (i-1) []) (l.getD i []))
def A4 (l:List (List UInt8)):Bool:= !((List.range l.length).any (R1 l))&&decide ((l.length:Int)<=20)
theorem W5 {l:List (List UInt8)}{i:Nat}:qD .str l (i:Int)=l.getD i []:=by unfold qD;rw[aRY];rfl
theorem aFJ {l:List (List UInt8)}{i:Nat}:qD .str l ((i:Int)-1)=l.getD (i-1) []:=by
 unfold qD;rw[show ((i:Int)-1).toNat=i-1 by omega];rfl
theorem W6 {i:Nat}:decide ((0:Int)<(i:Int))=decide (0<i):=by simp
theorem aNo (l:List (List UInt8)) (hl:q8 l):FS l=some (A4 l):=by
 unfold q8 at hl;have h:=W3 (f:=PJ l) (n:=l.length) (R1 l) (fun _=>false) (fun i h=>by
  unfold PJ;rw[if_pos (tO h),if_pos (sA h),W5,aFJ,VE,aRf,W6];have h0: ∀q:Bool,((q==false)&&(decide (0<i)==true))=true->0<i:=fun q hq=>by
   simp only[aRm,aS0,aRk] at hq;exact hq.2
  rw[if_pos (fun hq=>by have:=h0 _ hq;unfold pP;omega),if_pos (fun hq=>by have:=h0 _ hq;omega),if_pos (tC (by omega))];rfl) (by
  unfold PJ;rw[if_neg (vI _)])
 unfold FS;rw[h,W4];rfl
theorem aNp (l:List (List UInt8)) (hl:q8 l) (hx: ∀x∈l,q8 x):DB l=some (A4 l):=by
 unfold q8 at hl;have h:=W3 (f:=Q3 l) (n:=l.length) (R1 l) (fun _=>false) (fun i h=>by
  unfold Q3;have hf:q8 (l.getD i []):=by rw[aRD,aRn h];exact hx _ (aSa h)
  rw[if_pos (tO h),if_pos (sA h),W5,aFJ,EK _ hf,aRf,W6];have h0: ∀q:Bool,((q==false)&&(decide (0<i)==true))=true->0<i:=fun q hq=>by
   simp only[aRm,aS0,aRk] at hq;exact hq.2
  rw[if_pos (fun _=>sA h),if_pos (fun hq=>by have:=h0 _ hq;unfold pP;omega),if_pos (fun hq=>by have:=h0 _ hq;omega),if_pos (tC (by omega)),<-a7j];rfl) (by
  unfold Q3;rw[if_neg (vI _)])
 unfold DB;rw[h,W4];rfl
abbrev fD:rH:=([],([],()))
def R2 (l:List rH) (i:Nat):Bool:=((!sU (l.getD i fD).1)||(!sD (l.getD i fD).2.1))||(decide (0<i)&& !Op.bytesLess (l.getD (i-1) fD).1 (l.getD i fD).1)
def vR (l:List rH):Bool:= !((List.range l.length).any (R2 l))&&decide ((l.length:Int)<=20)
theorem a7k {l:List rH}{i:Nat}:qD (.pair .str (.pair .str .unit)) l (i:Int)=l.getD i fD:=by unfold qD;rw[aRY];rfl
theorem aFK {l:List rH}{i:Nat}:qD (.pair .str (.pair .str .unit)) l ((i:Int)-1)=l.getD (i-1) fD:=by
 unfold qD;rw[show ((i:Int)-1).toNat=i-1 by omega];rfl
def R3 (x:rH):Prop:=q8 x.1/\q8 x.2.1
theorem NF {α:Type}{l:List α}{i:Nat}{d:α}(h:i<l.length):l.getD i d∈l:=by
 rw[aRD,aRn h];exact aSa h
theorem W7 {i:Nat}{q:Bool}(hq:((q==false)&&(decide (0<i)==true))=true):0<i:=by
 simp only[aRm,aS0,aRk] at hq;exact hq.2
theorem aFL (l:List rH) (hl:q8 l) (hx: ∀x∈l,R3 x):EF l=some (vR l):=by
 unfold q8 at hl;have h:=W3 (f:=Q4 l) (n:=l.length) (R2 l) (fun _=>false) (fun i h=>by
  unfold Q4;have hf:=hx _ (NF (d:=fD) h);rw[if_pos (tO h),if_pos (sA h),a7k,aFK,VE,aRf,W6,N2 _ hf.2];rw[if_pos wR,if_pos (fun hq=>by have:=W7 hq;unfold pP;omega),if_pos (fun hq=>by have:=W7 hq;omega),if_pos (tC (by omega))];rfl) (by
  unfold Q4;rw[if_neg (vI _)])
 unfold EF;rw[h,W4];rfl
theorem aNq (l:List rH) (hl:q8 l) (hx: ∀x∈l,R3 x):EI l=some (vR l):=by
 unfold q8 at hl;have h:=W3 (f:=QC l) (n:=l.length) (R2 l) (fun _=>false) (fun i h=>by
  unfold QC;have hf:=hx _ (NF (d:=fD) h);obtain⟨h1,h2⟩:=ID _ hf.2;rw[if_pos (tO h),if_pos (sA h),a7k,aFK,EK _ hf.1,aRf,W6,h1,h2];rw[if_pos (fun _=>sA h),if_pos wR,if_pos (fun _=>sA h),if_pos (fun hq=>by have:=W7 hq;unfold pP;omega),if_pos (fun hq=>by have:=W7 hq;omega),if_pos (tC (by omega)),<-a7j];rfl) (by
  unfold QC;rw[if_neg (vI _)])
 unfold EI;rw[h,W4];rfl
abbrev rX:=qQ
structure W8 (x:rX):Prop where
 id:q8 x.1
 src:q8 x.2.1
 tgt:q8 x.2.2.1
 com:q8 x.2.2.2.1/\∀y∈x.2.2.2.1,q8 y
 flg:q8 x.2.2.2.2.1/\∀y∈x.2.2.2.2.1,q8 y
 fld:q8 x.2.2.2.2.2.2.1/\∀y∈x.2.2.2.2.2.2.1,R3 y
def wF (x:rX):Bool:=
 (((((((!decide (x.1=[]))&&decide ((x.1.length:Int)<=200))&&sD x.1)&&sD x.2.1)&&sD x.2.2.1)&&vY x.2.2.2.1)&&A4 x.2.2.2.2.1)&&(decide (0<=x.2.2.2.2.2.1)&&decide (x.2.2.2.2.2.1<=4))&&vR x.2.2.2.2.2.2.1
theorem aNr (x:rX) (h:W8 x):I7 x=some (wF x):=by
 obtain⟨t1,t2⟩:=aFI _ h.com.1 h.com.2;have e1:=aNo _ h.flg.1;have e2:=aFL _ h.fld.1 h.fld.2;unfold I7;rw[N2 _ h.id,N2 _ h.src,N2 _ h.tgt,t1,t2,e1,e2];have k: ∀s:List UInt8,(decide ((s.length:Int)<=4000)&&Lib.validD s)=sD s:=fun s=>rfl;rw[if_pos wR,aRf,if_pos wR,if_pos wR,if_pos wR,if_pos wR,k,k,k];unfold wF;show (if _ then some false else some _)=_;have a1:decide ((200:Int)<(x.1.length:Int))= !decide ((x.1.length:Int)<=200):=by rw[<-decide_not];exact aTf.2 (by omega)
 have a2:decide (x.2.2.2.2.2.1<(0:Int))= !decide ((0:Int)<=x.2.2.2.2.2.1):=by rw[<-decide_not];exact aTf.2 (by omega)
 have a3:decide ((4:Int)<x.2.2.2.2.2.1)= !decide (x.2.2.2.2.2.1<=(4:Int)):=by rw[<-decide_not];exact aTf.2 (by omega)
 rw[a1,a2,a3];show (if _ then some false else some (((((sD x.2.1&&sD x.2.2.1)&&vY x.2.2.2.1)&&A4 x.2.2.2.2.1))&&vR x.2.2.2.2.2.2.1))=_;generalize decide (x.1=[])=b1;generalize decide ((x.1.length:Int)<=200)=b2;generalize sD x.1=b3;generalize sD x.2.1=b4;generalize sD x.2.2.1=b5;generalize vY x.2.2.2.1=b6;generalize A4 x.2.2.2.2.1=b7;generalize decide ((0:Int)<=x.2.2.2.2.2.1)=b8;generalize decide (x.2.2.2.2.2.1<=(4:Int))=b9;generalize vR x.2.2.2.2.2.2.1=b10;cases b1<;>cases b2<;>cases b3<;>cases b8<;>cases b9<;>simp
theorem aNs (x:rX) (h:W8 x):MS x=some ()/\((((((((((!decide (x.1=([]:List UInt8)))&&(decide ((x.1.length:Int)<=(200:Int))))&&((decide ((x.1.length:Int)<=(4000:Int)))&&(val (tU x.1))))&&((decide ((x.2.1.length:Int)<=(4000:Int)))&&(val (tU x.2.1))))&&((decide ((x.2.2.1.length:Int)<=(4000:Int)))&&(val (tU x.2.2.1))))&&(val (CE x.2.2.2.1)))&&(val (DB x.2.2.2.2.1)))&&(decide ((0:Int)<=x.2.2.2.2.2.1)))&&(decide (x.2.2.2.2.2.1<=(4:Int))))&&(val (EI x.2.2.2.2.2.2.1)))=wF x:=by
 obtain⟨u1,v1⟩:=ID _ h.id;obtain⟨u2,v2⟩:=ID _ h.src;obtain⟨u3,v3⟩:=ID _ h.tgt;have e0:=aNm _ h.com.1 h.com.2;have e1:=aNp _ h.flg.1 h.flg.2;have e2:=aNq _ h.fld.1 h.fld.2;unfold MS;rw[u1,u2,u3,v1,v2,v3,e0,e1,e2];refine⟨?_,?_⟩
 ·rw[if_pos wR,if_pos wR,if_pos wR,if_pos wR,if_pos wR,if_pos wR]
 ·unfold wF;show (((((((((!_&&_)&&_)&&_)&&_)&&vY x.2.2.2.1)&&A4 x.2.2.2.2.1)&&_)&&_)&&vR x.2.2.2.2.2.2.1)=_;simp only[Bool.and_assoc]
abbrev eD:rX:=([],([],([],([],([],(0,([],())))))))
def GI (es:List rX) (i:Nat):Bool:=((es.take i).any fun y=>decide (y.1=(es.getD i eD).1))|| !wF (es.getD i eD)
def vS (c:C4):Bool:=((vE c.1&&vY c.2.1)&&vR c.2.2.1)&&(decide ((c.2.2.2.1.length:Int)<=1000)&& !((List.range c.2.2.2.1.length).any (GI c.2.2.2.1)))
theorem aFM {l:List rX}{i:Nat}:qD sK l (i:Int)=l.getD i eD:=by unfold qD;rw[aRY];rfl
structure a7l (c:C4):Prop where
 tag:q8 c.1
 com:q8 c.2.1/\∀y∈c.2.1,q8 y
 fld:q8 c.2.2.1/\∀y∈c.2.2.1,R3 y
 len:c.2.2.2.1.length<=5000
 ent: ∀x∈c.2.2.2.1,W8 x
theorem aNt {α:Type}{l:List α}{i:Nat}{d:α}(h:i<l.length):l.take (i+1)=l.take i++[l.getD i d]:=by
 rw[List.take_add_one,aRn h,aRD,aRn h];rfl
theorem aFN {c:C4}(hc:a7l c): ∀(n i:Nat) (m:List (List UInt8×Bool)),i+n=c.2.2.2.1.length->VT m (c.2.2.2.1.take i)->
  qM (K3 c) ((i:Int),m)=some (if (List.range' i n).any (GI c.2.2.2.1)=true then .inr false else .inl ())
 |0,i,m,hi,_=>by
  have:i=c.2.2.2.1.length:=by omega
  subst this;refine uV ?_;unfold K3;dsimp only;rw[if_neg (vI _)];rfl
 |n+1,i,m,hi,hm=>by
  have h:i<c.2.2.2.1.length:=by omega
  have he:=hc.ent _ (NF (d:=eD) h);have hl:=hc.len;have hst:K3 c ((i:Int),m)=if GI c.2.2.2.1 i=true then some (.inr (.inr false)) else some (.inl (((i+1:Nat):Int),v7 .str .bool (c.2.2.2.1.getD i eD).1 true m)):=by
   unfold K3;dsimp only;rw[if_pos (tO h),if_pos (sA h),aFM,hm,aNr _ he,if_pos wR,if_pos (tC (by omega))];rfl
  rw[aS3,List.any_cons];by_cases hb:GI c.2.2.2.1 i=true
  ·rw[if_pos hb] at hst;rw[hb,Bool.true_or,if_pos rfl];exact uV hst
  ·rw[if_neg hb] at hst;rw[BF hst,aFN hc n (i+1) _ (by omega) (by rw[aNt (d:=eD) h];exact aE9 hm _ _ rfl)];simp only[aSc] at hb;rw[hb,Bool.false_or]
theorem aNu {c:C4}(hc:a7l c):K4 c=some (vS c):=by
 obtain⟨t1,t2⟩:=aFI _ hc.com.1 hc.com.2;have e2:=aFL _ hc.fld.1 hc.fld.2;have hlp:=aFN hc c.2.2.2.1.length 0 [] (by omega) (fun x=>by rfl);rw[<-List.range_eq_range'] at hlp;have hlp':qM (K3 c) ((0:Int),[])=_:=hlp;have a1:decide ((1000:Int)<(c.2.2.2.1.length:Int))= !decide ((c.2.2.2.1.length:Int)<=1000):=by rw[<-decide_not];exact aTf.2 (by omega)
 unfold K4;rw[a6G,aRf,t1,t2,e2,if_pos wR,if_pos wR,hlp',a1];unfold vS;show (if (((!vE c.1)||(!vY c.2.1))||(!vR c.2.2.1)||_)=true then some false else _)=_
 generalize vE c.1=b1;generalize vY c.2.1=b2;generalize vR c.2.2.1=b3;generalize decide ((c.2.2.2.1.length:Int)<=1000)=b4;generalize (List.range c.2.2.2.1.length).any (GI c.2.2.2.1)=b5;cases b1<;>cases b2<;>cases b3<;>cases b4<;>cases b5<;>rfl
def vJ:Nat:=140737488351232
theorem aFO {l:List (List UInt8)}(hl:l.length<=vJ) (hx: ∀x∈l,x.length<=vJ): ∀(m i:Nat) (n:Int),i+m=l.length->0<=n->n<=1125899906842624->
  ∃r,qM (HR l) (n,(i:Int))=some r/\n<=r/\r<=1125899906842624/\(r<1099511627776->∀x∈l.drop i,n+(x.length:Int)<=r)
 |0,i,n,hi,h0,h1=>by
  have:i=l.length:=by omega
  subst this;refine⟨n,uV ?_,aSi _,h1,fun _ x hx=>by rw[aSb] at hx;cases hx⟩;unfold HR;dsimp only;rw[if_neg (by simp)]
 |m+1,i,n,hi,h0,h1=>by
  have h:i<l.length:=by omega
  by_cases hn:n<1099511627776
  ·have hxi:=hx _ (aSa h);unfold vJ at hxi hl;have hst:HR l (n,(i:Int))=some (.inl (n+(l[i].length:Int),((i+1:Nat):Int))):=by
    unfold HR;dsimp only;rw[if_pos (by simp [h,hn]),if_pos (sA h),y5 (t:= .str) h,if_pos (by unfold pP;omega),if_pos (by unfold pP;omega)];rfl
   obtain⟨r,e,e1,e2,e3⟩:=aFO (by unfold vJ;exact hl) hx m (i+1) (n+(l[i].length:Int)) (by omega) (by omega) (by omega);refine⟨r,by rw[BF hst,e],by omega,e2,fun hr x hxm=> ?_⟩;rw[aRC h] at hxm;rcases aRv.1 hxm with rfl|hxm
   ·omega
   ·have:=e3 hr x hxm;omega
  ·refine⟨n,uV ?_,aSi _,h1,fun hr=>by omega⟩;unfold HR;dsimp only;rw[if_neg (by simp [hn])]
theorem aFP {l:List rH}(hl:l.length<=vJ) (hx: ∀x∈l,x.1.length<=vJ/\x.2.1.length<=vJ): ∀(m i:Nat) (n:Int),i+m=l.length->0<=n->n<=1125899906842624->
  ∃r,qM (HS l) (n,(i:Int))=some r/\n<=r/\r<=1125899906842624/\(r<1099511627776->∀x∈l.drop i,n+(x.1.length:Int)+(x.2.1.length:Int)<=r)
 |0,i,n,hi,h0,h1=>by
  have:i=l.length:=by omega
  subst this;refine⟨n,uV ?_,aSi _,h1,fun _ x hx=>by rw[aSb] at hx;cases hx⟩;unfold HS;dsimp only;rw[if_neg (by simp)]
 |m+1,i,n,hi,h0,h1=>by
  have h:i<l.length:=by omega
  by_cases hn:n<1099511627776
  ·have hxi:=hx _ (aSa h);unfold vJ at hxi hl;have hst:HS l (n,(i:Int))=some (.inl (n+(l[i].1.length:Int)+(l[i].2.1.length:Int),((i+1:Nat):Int))):=by
    unfold HS;dsimp only;rw[if_pos (by simp [h,hn]),if_pos (sA h),y5 (t:= .pair .str (.pair .str .unit)) h,if_pos (by unfold pP;omega),if_pos (sA h),if_pos (by unfold pP;omega),if_pos (by unfold pP;omega)];rfl
   obtain⟨r,e,e1,e2,e3⟩:=aFP (by unfold vJ;exact hl) hx m (i+1) (n+(l[i].1.length:Int)+(l[i].2.1.length:Int)) (by omega) (by omega) (by omega);refine⟨r,by rw[BF hst,e],by omega,e2,fun hr x hxm=> ?_⟩;rw[aRC h] at hxm;rcases aRv.1 hxm with rfl|hxm
   ·omega
   ·have:=e3 hr x hxm;omega
  ·refine⟨n,uV ?_,aSi _,h1,fun hr=>by omega⟩;unfold HS;dsimp only;rw[if_neg (by simp [hn])]
def EV (l:List (List UInt8)):Prop:=l.length<=6000/\∀x∈l,x.length<=6000
def IH (l:List rH):Prop:=l.length<=6000/\∀x∈l,x.1.length<=6000/\x.2.1.length<=6000
theorem aFQ {l:List (List UInt8)}{f:List rH}(hl:l.length<=vJ) (hx: ∀x∈l,x.length<=vJ) (hf:f.length<=vJ) (hy: ∀x∈f,x.1.length<=vJ/\x.2.1.length<=vJ):
  ∃r,yB l f=some r/\0<=r/\r<=1125899906842624/\(r<=6000->EV l/\IH f):=by
 have hl':=hl;have hf':=hf;unfold vJ at hl' hf';obtain⟨r,e,e1,e2,e3⟩:=aFO hl hx l.length 0 ((l.length:Int)+(f.length:Int)) (by omega) (by omega) (by omega);obtain⟨r',k,k1,k2,k3⟩:=aFP hf hy f.length 0 r (by omega) (by omega) e2;have e':qM (HR l) ((l.length:Int)+(f.length:Int),(0:Int))=some r:=e;have k':qM (HS f) (r,(0:Int))=some r':=k;refine⟨r',?_,by omega,k2,fun hr=>⟨⟨by omega,fun x hxm=> ?_⟩,⟨by omega,fun x hxm=> ?_⟩⟩⟩
 ·unfold yB;rw[if_pos (by unfold pP;omega),e'];unfold rL;rw[aRf,k',aRf]
 ·have:=e3 (by omega) x (by rw[aSk];exact hxm);omega
 ·have:=k3 (by omega) x (by rw[aSk];exact hxm);omega
structure a7m (x:rX):Prop where
 id:x.1.length<=vJ
 src:x.2.1.length<=vJ
 tgt:x.2.2.1.length<=vJ
 com:x.2.2.2.1.length<=vJ/\∀y∈x.2.2.2.1,y.length<=vJ
 flg:x.2.2.2.2.1.length<=vJ/\∀y∈x.2.2.2.2.1,y.length<=vJ
 fld:x.2.2.2.2.2.2.1.length<=vJ/\∀y∈x.2.2.2.2.2.2.1,y.1.length<=vJ/\y.2.1.length<=vJ
structure KM (x:rX):Prop where
 id:x.1.length<=6000
 src:x.2.1.length<=6000
 tgt:x.2.2.1.length<=6000
 com:EV x.2.2.2.1
 flg:EV x.2.2.2.2.1
 fld:IH x.2.2.2.2.2.2.1
theorem aNv (x:rX) (h:a7m x): ∃b:Bool,MF x=some ()/\
  ((decide ((((x.1.length:Int)+(x.2.1.length:Int))+(x.2.2.1.length:Int))<=(6000:Int)))&&(decide (((val (yB x.2.2.2.1 x.2.2.2.2.2.2.1))+(val (yB x.2.2.2.2.1 ([]:List qB))))<=(6000:Int))))=b/\(b=true->KM x):=by
 obtain⟨r,e,e1,e2,e3⟩:=aFQ h.com.1 h.com.2 h.fld.1 h.fld.2;obtain⟨r',k,k1,k2,k3⟩:=aFQ (f:=[]) h.flg.1 h.flg.2 (by unfold vJ;simp) (fun x hx=>by cases hx);have a1:=h.id;have a2:=h.src;have a3:=h.tgt;unfold vJ at a1 a2 a3;refine⟨_,?_,rfl,fun hb=> ?_⟩
 ·unfold MF;rw[e,k,if_pos (by unfold pP;omega),if_pos (by unfold pP;omega),if_pos wR,if_pos wR,if_pos (fun _=>by show pP (r+r');unfold pP;omega)]
 ·rw[e,k] at hb;simp only[aRm,aRk] at hb;obtain⟨h1,h2⟩:=hb;have h2:r+r'<=6000:=h2;obtain⟨p,q⟩:=e3 (by omega);obtain⟨p',_⟩:=k3 (by omega);exact⟨by omega,by omega,by omega,p,p',q⟩
structure W9 (c:C4):Prop where
 tag:c.1.length<=100
 com:EV c.2.1
 fld:IH c.2.2.1
 len:c.2.2.2.1.length<=1000
 ent: ∀x∈c.2.2.2.1,KM x
theorem II {l:List UInt8}(h:l.length<=6000):q8 l:=by unfold q8;omega
theorem a7n {l:List (List UInt8)}(h:EV l):q8 l/\∀y∈l,q8 y:=⟨by have:=h.1;unfold q8;omega,fun y hy=>II (h.2 y hy)⟩
theorem aFR {l:List rH}(h:IH l):q8 l/\∀y∈l,R3 y:=⟨by have:=h.1;unfold q8;omega,fun y hy=>⟨II (h.2 y hy).1,II (h.2 y hy).2⟩⟩
theorem KM.fitP {x:rX}(h:KM x):W8 x:=⟨II h.id,II h.src,II h.tgt,a7n h.com,a7n h.flg,aFR h.fld⟩
theorem W9.fitP {c:C4}(h:W9 c):a7l c:=⟨II (by have:=h.tag;omega),a7n h.com,aFR h.fld,by have:=h.len;omega,fun x hx=>(h.ent x hx).fitP⟩
theorem aFS {σ ρ α:Type}{f:σ->Option (σ⊕ρ)}(st:Int->List α->σ) (out:List α->ρ) {n M B:Nat}(g:Nat->List α) (hg: ∀i,i<n->(g i).length<=B)
  (hf: ∀(i:Nat) s,i<n->s.length+B<=M->f (st i s)=some (.inl (st ((i:Int)+1) (s++g i)))) (he: ∀s,f (st n s)=some (.inr (out s))):
  ∀(k i:Nat) (s:List α),i+k=n->s.length+k*B<=M->qM f (st i s)=some (out (s++(List.range' i k).flatMap g))
 |0,i,s,hi,_=>by
  have:i=n:=by omega
  subst this;rw[uV (he s)];simp
 |k+1,i,s,hi,hM=>by
  rw[aSr] at hM;have hgi:=hg i (by omega);rw[BF (hf i s (by omega) (by omega)),show ((i:Int)+1)=((i+1:Nat):Int) by omega,aFS st out g hg hf he k (i+1) (s++g i) (by omega) (by rw[aRh];omega),aS3,aSJ,aRo]
theorem aFT {α:Type}{g:Nat->List α}{B:Nat}: ∀(k i:Nat),(∀j,i<=j->j<i+k->(g j).length<=B)->((List.range' i k).flatMap g).length<=k*B
 |0,i,_=>by simp
 |k+1,i,h=>by
  rw[aS3,aSJ,aRh,aSr];have h1:=aFT k (i+1) fun j h1 h2=>h j (by omega) (by omega);have h2:=h i (by omega) (by omega);omega
theorem R4 {σ ρ α:Type}{f:σ->Option (σ⊕ρ)}(st:Int->List α->σ) (out:List α->ρ) {n M B:Nat}(g:Nat->List α) (hg: ∀i,i<n->(g i).length<=B) (s:List α) (hM:s.length+n*B<=M)
  (hf: ∀(i:Nat) s,i<n->s.length+B<=M->f (st i s)=some (.inl (st ((i:Int)+1) (s++g i)))) (he: ∀s,f (st n s)=some (.inr (out s))):
  qM f (st 0 s)=some (out (s++(List.range' 0 n).flatMap g)):=aFS st out g hg hf he n 0 s (by omega) hM
theorem WA {α β:Type}{l:List α}{d:α}(h:α->List β):(List.range' 0 l.length).flatMap (fun i=>h (l.getD i d))=l.flatMap h:=by
 have e:(List.range' 0 l.length).map (fun i=>l.getD i d)=l:=by
  apply List.ext_getElem
  ·simp
  ·intro i h1 h2;simp [aRD,h2]
 conv=>rhs;rw[<-e]
 rw[List.flatMap_map]
theorem KN {α β:Type}{l:List α}{h:α->List β}{B:Nat}(hb: ∀x∈l,(h x).length<=B):(l.flatMap h).length<=l.length*B:=by
 induction l with
 |nil=>simp
 |cons x l ih=>
  rw[aSJ,aRh,aRj,aSr];have h1:=hb x aRB;have h2:=ih fun y hy=>hb y (aRt _ hy);omega
def uQ (n b:Nat) (first:Bool):List UInt8:=(G0 (n:Int) (b:Int) first).getD []
theorem aNw:((List.range 256).all fun b=>[true,false].all fun f=>decide (G0 3 (b:Int) f=some (uQ 3 b f))&&(decide (V1 3 (b:Int) f=some (uQ 3 b f))&&decide ((uQ 3 b f).length<=6)))=true:=by kernel_rfl
theorem aNx:((List.range 256).all fun b=>[true,false].all fun f=>decide (G0 1 (b:Int) f=some (uQ 1 b f))&&(decide (V1 1 (b:Int) f=some (uQ 1 b f))&&decide ((uQ 1 b f).length<=6)))=true:=by kernel_rfl
theorem aFU {n b:Nat}(hn:n=1\/n=3) (hb:b<256) (f:Bool):G0 (n:Int) (b:Int) f=some (uQ n b f)/\V1 (n:Int) (b:Int) f=some (uQ n b f)/\(uQ n b f).length<=6:=by
 have hf:f∈[true,false]:=by cases f<;>simp
 rcases hn with rfl|rfl
 ·have h:=aRW.1 (aRW.1 aNx b (by simpa using hb)) f hf;simpa using h
 ·have h:=aRW.1 (aRW.1 aNw b (by simpa using hb)) f hf;simpa using h
def KO (n:Nat) (s:List UInt8) (i:Nat):List UInt8:=uQ n (s.getD i 0).toNat (decide (i=0))
def rV (n:Nat) (s:List UInt8):List UInt8:=(List.range' 0 s.length).flatMap (KO n s)
theorem aFV {n:Nat}(hn:n=1\/n=3) (s:List UInt8) (i:Nat):(KO n s i).length<=6:=(aFU hn (UInt8.toNat_lt _) _).2.2
theorem GJ {n:Nat}(hn:n=1\/n=3) (s:List UInt8):(rV n s).length<=6*s.length:=by
 have:=aFT (g:=KO n s) (B:=6) s.length 0 fun j _ _=>aFV hn s j;unfold rV;omega
theorem aNy {s:List UInt8}{i:Nat}:qC s (i:Int)=((s.getD i 0).toNat:Int):=by unfold qC;rw[aRY]
theorem aNz {i:Nat}:decide ((i:Int)=0)=decide (i=0):=aTf.2 (by omega)
theorem WB {l:List Nat}{g:Nat->List UInt8}:l.flatMap (fun i=>s5 (g i))=s5 (l.flatMap g):=by
 induction l with
 |nil=>rfl
 |cons x l ih=>rw[aSJ,aSJ,BN,ih]
theorem AX (l:List UInt8):(s5 l).length=l.length:=by simp [s5]
theorem aNA {n:Nat}(hn:n=1\/n=3) {s:List UInt8}(hs:q8 s):EG (n:Int) s=some (rV n s):=by
 unfold q8 at hs;have hn4: ¬decide ((n:Int)=4)=true:=by simp;omega
 have h:=R4 (f:=Q5 (n:Int) s) (fun i b=>(i,b)) (fun b=>b) (n:=s.length) (M:=10000000000000) (B:=6) (fun i=>s5 (KO n s i)) (fun i _=>by rw[AX];exact aFV hn s i) [] (by simp;omega) (fun i b hi hM=>by
  obtain⟨e1,_,e3⟩:=aFU hn (UInt8.toNat_lt (s.getD i 0)) (decide (i=0));unfold Q5;dsimp only;rw[if_pos (tO hi),if_neg hn4,if_pos (sA hi),aNy,aNz,e1,aRf];unfold yA;rw[if_pos (by dsimp only;omega),aRf,if_pos (tC (by omega))];rfl) (fun b=>by
  unfold Q5;dsimp only;rw[if_neg (vI _)])
 unfold EG;rw[if_neg (by simp;omega),h,WB];unfold rL;rw[aRf,List.nil_append,N5];rfl
def zP (h:List UInt8) (l:List (List UInt8)) (t:List UInt8):List UInt8:=h++(l.flatten++t)
theorem aFW {f:(Int×List UInt8)->List Int->Option (List Int⊕List UInt8)}(hf: ∀it b,b.length+it.2.length<=140737488355328->f it b=some (.inl (b++s5 it.2))): ∀(l:List (Int×List UInt8)) (b:List Int),
  b.length+((l.map (·.2)).flatten).length<=140737488355328->vX f l b=some (.inl (b++s5 (l.map (·.2)).flatten))
 |[],b,_=>by simp [vX,s5]
 |it::l,b,h=>by
  simp only[aR2,aRS,aRh] at h;unfold vX;rw[hf it b (by omega),aRf];show vX f l _=_;rw[aFW hf l _ (by rw[aRh,AX];omega)];simp only[aR2,aRS,BN,aRo]
theorem aFX (d:HE):((BH d).map (·.2)).flatten=zP d.1 d.2.1 d.2.2.1:=by
 unfold BH zP;have e:(List.range d.2.1.length).map (fun j=>d.2.1.getD j [])=d.2.1:=by
  apply List.ext_getElem
  ·simp
  ·intro i h1 h2;simp [aRD,h2]
 have e2:(((List.range d.2.1.length).map fun j:Nat=>((j:Int)+1,d.2.1.getD j [])).map (·.2))=d.2.1:=by
  rw[List.map_map];exact e
 simp only[aR2,List.map_append,List.map_nil,aRS,List.flatten_append,List.flatten_nil,List.append_nil,e2,aRo]
theorem aFY (d:HE) (hl:d.2.1.length<=900000) (hb:(zP d.1 d.2.1 d.2.2.1).length<=140737488355328):HX d=some (zP d.1 d.2.1 d.2.2.1):=by
 have h:=aFW (f:=UX) (fun it b h=>by
  unfold UX yA;rw[if_pos h,aRf]) (BH d) [] (by rw[aFX];simpa using hb)
 unfold HX;rw[if_pos (by omega),h,aFX];unfold sN;dsimp only;rw[aRf];simp only[List.nil_append,N5]
def yZ (n:Nat):Bool->List UInt8->List UInt8
 |_,[]=>[]
 |f,b::t=>uQ n b.toNat f++yZ n false t
theorem aFZ (n:Nat): ∀(s:List UInt8) (p:List UInt8),p≠[]->(List.range' p.length s.length).flatMap (KO n (p++s))=yZ n false s
 |[],p,_=>by simp [yZ]
 |b::t,p,hp=>by
  have hl:0<p.length:=aSI.2 hp;rw[aRj,aS3,aSJ];have h1:KO n (p++b::t) p.length=uQ n b.toNat false:=by
   unfold KO;rw[show decide (p.length=0)=false by simp;exact hp];congr 2;rw[aRD,aRq (Nat.le_refl _),aTj];rfl
  have h2:=aFZ n t (p++[b]) (by simp);rw[aRh,aR5,aRo,aR4] at h2;rw[h1,h2];rfl
theorem R5 (n:Nat) (s:List UInt8):rV n s=yZ n true s:=by
 cases s with
 |nil=>rfl
 |cons b t=>
  unfold rV;rw[aRj,aS3,aSJ];have h2:=aFZ n t [b] (by simp);rw[aR5,aR4] at h2;rw[aRR,h2];rfl
theorem aNB {e:List UInt8}(t:List UInt8) (h:(xH e).2=e.length) (h0:e≠[]):xH (e++t)=xH e:=by
 match e,h,h0 with
 |[a],h,_=>simp [xH] at h
 |a::c::u,h,_=>
  show xH (a::c::(u++t))=xH (a::c::u);simp only[xH] at h⊢;split
  ·rfl
  ·rename_i h1;rw[if_neg h1] at h;split
   ·rfl
   ·rename_i h2;rw[if_neg h2] at h;split
    ·rfl
    ·rename_i h3;rw[if_neg h3] at h;split
     ·rfl
     ·rename_i h4;rw[if_neg h4] at h;by_cases hx:c=120/\2<=u.length
      ·rw[if_pos hx,if_pos ⟨hx.1,by rw[aRh];omega⟩,aSP hx.2]
      ·rw[if_neg hx] at h⊢;by_cases hu:c=117/\4<=u.length
       ·have: ¬(c=120/\2<=(u++t).length):=fun hh=>by
         have:=hu.1.symm.trans hh.1;exact absurd this (by decide)
        rw[if_neg this,if_pos hu,if_pos ⟨hu.1,by rw[aRh];omega⟩,aSP hu.2]
       ·rw[if_neg hu] at h;simp at h
theorem aNC {n:Int}{e:List UInt8}(t:List UInt8) (h:(t7 n e).2=e.length) (h0:e≠[]):t7 n (e++t)=t7 n e:=by
 match e,h,h0 with
 |b::u,h,_=>
  show t7 n (b::(u++t))=_;by_cases hb:b=92
  ·rw[N3 hb] at h⊢;rw[N3 hb];exact aNB (e:=b::u) t h (by simp)
  ·by_cases hk:zO n b=true
   ·rw[KE hb hk,KE hb hk]
   ·rw[N4 hb hk,N4 hb hk]
theorem aND:((List.range 256).all fun b=>[true,false].all fun f=>decide (t7 3 (uQ 3 b f)=([b.toUInt8],(uQ 3 b f).length))&&(decide (uQ 3 b f≠[])&&decide (sE 34 (uQ 3 b f++[34])=some (uQ 3 b f).length)))=true:=by kernel_rfl
theorem aNE:((List.range 256).all fun b=>[true,false].all fun f=>decide (t7 1 (uQ 1 b f)=([b.toUInt8],(uQ 1 b f).length))&&(decide (uQ 1 b f≠[])&&decide (sE 61 (uQ 1 b f++[61])=some (uQ 1 b f).length)))=true:=by kernel_rfl
def NH (n:Nat):UInt8:=if n=1 then 61 else 34
theorem aF0 {n:Nat}(hn:n=1\/n=3) (b:UInt8) (f:Bool):t7 (n:Int) (uQ n b.toNat f)=([b],(uQ n b.toNat f).length)/\uQ n b.toNat f≠[]/\sE (NH n) (uQ n b.toNat f++[NH n])=some (uQ n b.toNat f).length:=by
 have hf:f∈[true,false]:=by cases f<;>simp
 have hb:b.toNat<256:=UInt8.toNat_lt b;have hbb:b.toNat.toUInt8=b:=by simp
 rcases hn with rfl|rfl
 ·have h:=aRW.1 (aRW.1 aNE b.toNat (by simpa using hb)) f hf;simp only[aRm,aRk,hbb] at h;exact⟨h.1,h.2.1,h.2.2⟩
 ·have h:=aRW.1 (aRW.1 aND b.toNat (by simpa using hb)) f hf;simp only[aRm,aRk,hbb] at h;exact⟨h.1,h.2.1,h.2.2⟩
theorem aF1 {n:Nat}(hn:n=1\/n=3): ∀(s:List UInt8) (f:Bool) (k:Nat),(yZ n f s).length<=k->x8 (n:Int) k (yZ n f s)= .inl s
 |[],f,k,_=>by
  cases k<;>rfl
 |b::t,f,k,hk=>by
  obtain⟨h1,h2,_⟩:=aF0 hn b f;unfold yZ at hk⊢;obtain⟨e,he⟩: ∃e,uQ n b.toNat f=e:=⟨_,rfl⟩;rw[he] at h1 h2 hk⊢;have hp:=aNC (yZ n false t) (by rw[h1]) h2;rw[h1] at hp;rw[aRh] at hk;have hl:0<e.length:=aSI.2 h2;obtain⟨k',rfl⟩: ∃k',k=k'+1:=⟨k-1,by omega⟩;obtain⟨a,u,rfl⟩: ∃a u,e=a::u:=by
   cases e with
   |nil=>exact absurd rfl h2
   |cons a u=>exact⟨a,u,rfl⟩
  rw[List.cons_append] at hp⊢;unfold x8;rw[hp,if_neg (by simp)];dsimp only;rw[<-List.cons_append,aSZ,aF1 hn t false k' (by omega)];rfl
theorem aF2 {n:Nat}(hn:n=1\/n=3) (s:List UInt8):yG (n:Int) (rV n s)=(s,0,0):=by
 unfold yG;rw[R5,aF1 hn s true _ (Nat.le_refl _)]
theorem a7o {d:UInt8}: ∀(m:Nat) (e t:List UInt8),e.length<=m->sE d (e++[d])=some e.length->sE d (e++t)=(sE d t).map (· +e.length)
 |_,[],t,_,_=>by simp
 |0,_::_,_,h,_=>by simp at h
 |m+1,b::u,t,hm,h=>by
  rw[List.cons_append] at h⊢;rw[aRj] at hm;by_cases hb:b=d
  ·rw[QP hb] at h;simp at h
  ·by_cases h9:b=92
   ·rw[QQ hb h9] at h;rw[QQ hb h9];cases u with
    |nil=>simp [VJ] at h
    |cons c v=>
     simp only[List.cons_append,aS2,aSk] at h⊢;rw[aRj] at hm;have h':sE d (v++[d])=some v.length:=by
      cases hq:sE d (v++[d]) with
      |none=>rw[hq] at h;cases h
      |some k=>rw[hq] at h;simp at h;rw[h]
     rw[a7o m v t (by omega) h',Option.map_map];congr 1
   ·rw[KC hb h9] at h;rw[KC hb h9];have h':sE d (u++[d])=some u.length:=by
     cases hq:sE d (u++[d]) with
     |none=>rw[hq] at h;cases h
     |some k=>rw[hq] at h;simp at h;rw[h]
    rw[a7o m u t (by omega) h',Option.map_map];congr 1
theorem a7p {n:Nat}(hn:n=1\/n=3): ∀(s:List UInt8) (f:Bool) (t:List UInt8),sE (NH n) (yZ n f s++t)=(sE (NH n) t).map (· +(yZ n f s).length)
 |[],f,t=>by simp [yZ]
 |b::u,f,t=>by
  obtain⟨_,_,h3⟩:=aF0 hn b f;unfold yZ;rw[aRo,a7o _ _ _ (Nat.le_refl _) h3,a7p hn u false t,Option.map_map];congr 1;funext k;simp only[Function.comp,aRh];omega
theorem aNF {n:Nat}(hn:n=1\/n=3) (s z:List UInt8):sE (NH n) (rV n s++NH n::z)=some (rV n s).length:=by
 rw[R5,a7p hn,QP rfl];simp
set_option maxRecDepth 1000000
theorem aF3 {σ ρ:Type}{f:σ->Option (σ⊕ρ)}{n:Nat}(st:Nat->σ) {r:ρ}(h: ∀i,i<n->f (st i)=some (.inl (st (i+1)))) (he:f (st n)=some (.inr r)): ∀(k i:Nat),i+k=n->qM f (st i)=some r
 |0,i,hi=>by
  have:i=n:=by omega
  subst this;exact aMD he
 |k+1,i,hi=>by
  rw[aMC (h i (by omega))];exact aF3 st h he k (i+1) (by omega)
abbrev pc (s:List UInt8) (l:List Nat) (i:Nat):List UInt8:=q7 s ((if i=0 then 0 else l.getD (i-1) 0:Nat):Int) (l.getD i 0:Nat)
abbrev NI (s:List UInt8) (l:List Nat):List (List UInt8):=(List.range l.length).map (pc s l)
abbrev NJ (l:List Nat):Nat:=l.getD (l.length-1) 0
section
variable {s:List UInt8}(hsm:s.length<=4000000000) {l:List Nat}(hne:l≠[]) (hs:l.Pairwise (·<=·)) (hle: ∀x∈l,x<=s.length) (hl:l.length<=5000)
theorem WC {i:Nat}(h:i<l.length):qD (.int .i64) (l.map (fun n:Nat=>(n:Int))) (i:Int)=(l.getD i 0:Nat):=by
 rw[y5 (t:= .int .i64) (by simpa using h),List.getElem_map,aRD,aRn h];rfl
include hle in
theorem a7q {i:Nat}(h:i<l.length):l.getD i 0<=s.length:=by
 rw[aRD,aRn h];exact hle _ (aSa h)
include hs in
theorem aNG {i j:Nat}(hij:i<j) (h:j<l.length):l.getD i 0<=l.getD j 0:=by
 rw[aRD,aRD,aRn h,aRn (by omega)];exact(aSm.1 hs) i j (by omega) h hij
end
def q3 (s:List UInt8):List UInt8:=([34]++rV 3 s)++[34]
theorem NK {l:List UInt8}{n:Nat}(h:l.length≤n) (hn:n≤9223372036854775807):(l.length:Int)≤9223372036854775807:=by omega
theorem WD {l:List (List UInt8)}(h:EV l) {i:Nat}(hi:i<l.length):(l.getD i []).length≤6000:=h.2 _ (NF hi)
theorem aF4 {l:List rH}(h:IH l) {i:Nat}(hi:i<l.length):(l.getD i fD).1.length≤6000∧(l.getD i fD).2.1.length≤6000:=h.2 _ (NF hi)
theorem a7r {n:Int}(h0:0≤n) (h1:n≤4):(qD .str wN n).length≤10:=by
  have:n=0∨n=1∨n=2∨n=3∨n=4:=by omega
  rcases this with rfl|rfl|rfl|rfl|rfl<;>decide
theorem aNH {α β:Type}{f:α→β}{l:List α}:l.flatMap (fun x=>[f x])=l.map f:=by
  induction l with
  |nil=>rfl
  |cons x l ih=>rw[aSJ,ih];rfl
theorem aF5 {c:C4}(hok:vS c=true) {i:Nat}(hi:i<c.2.2.2.1.length):wF (c.2.2.2.1.getD i eD)=true:=by
  unfold vS at hok;simp only[aRm,aRK,aR6,aSU] at hok;have:=hok.2.2 i hi;unfold GI at this;simp only[aSu,aRK,not_or,Bool.not_eq_false] at this;exact this.2
theorem a7s {x:rX}(h:wF x=true):0≤x.2.2.2.2.2.1∧x.2.2.2.2.2.1≤4:=by
  unfold wF at h;simp only[aRm,aRk] at h;exact h.1.2
theorem WE {x y b:UInt8}{t:List UInt8}(h:b≠x): ¬tQ x y (b::t)=true:=by
 cases t with
 |nil=>simp [tQ]
 |cons c u=>simp [tQ,h]
def WF (r:List UInt8):Prop:= ∀b t,r=b::t->BO b≠true/\b≠47
theorem aF6: ∀(g r:List UInt8),(∀b∈g,BO b=true)->WF r->G (g++r)=(g.length,true)
 |[],r,_,hr=>by
  cases r with
  |nil=>rfl
  |cons b t=>
   obtain⟨h1,h2⟩:=hr b t rfl;rw[List.nil_append,a6W h1 (WE h2) (WE h2)];rfl
 |b::g,r,hg,hr=>by
  rw[List.cons_append,a6V (hg b aRB),aF6 g r (fun x hx=>hg x (aRt _ hx)) hr];simp only[KF,aRj,aRI,and_true];omega
theorem aNI {g r:List UInt8}(hg: ∀b∈g,BO b=true) (hr:WF r):EO (g++r)=((A2 r).1,(A2 r).2.1,g.length,g.length+(A2 r).2.2):=by
 unfold EO;rw[aF6 g r hg hr];simp only[aSV,aSZ]
structure At (s:List UInt8) (P:Nat) (l:List UInt8):Prop where
 le:P<=s.length
 eq:s.drop P=l
theorem At.tok {s:List UInt8}{P:Nat}{g r x:List UInt8}{k:Int}{m:Nat}(h:At s P (g++r)) (hg: ∀b∈g,BO b=true) (hr:WF r) (ht:A2 r=(k,x,m)):kS s P=k/\xS s P=x/\At s (nS s P) (r.drop m):=by
 have e:=aNI hg hr;rw[ht,<-h.eq] at e;refine⟨?_,?_,(aMv h.le).2,?_⟩
 ·unfold kS;rw[e]
 ·unfold xS;rw[e]
 ·unfold nS;rw[e];dsimp only;rw[<-aSF,h.eq,<-aSF,aSZ]
theorem aNJ {x z:List UInt8}(hx:sD x=true):A2 (q3 x++z)=(1,x,(q3 x).length):=by
 have e1:q3 x++z=34::(rV 3 x++34::z):=by simp [q3]
 have e2:(q3 x).length=(rV 3 x).length+2:=by simp [q3]
 have h1:sE 34 (rV 3 x++34::z)=some (rV 3 x).length:=aNF (n:=3) (.inr rfl) x z;have h2:yG 3 (rV 3 x)=(x,0,0):=aF2 (n:=3) (.inr rfl) x;rw[e1,e2,aE6 (by decide) rfl];unfold N7;rw[h1];dsimp only;rw[aSE,h2,if_neg (by simp [hx])]
theorem aNK (x z:List UInt8):WF (q3 x++z):=by
 intro b t h;have:q3 x++z=34::(rV 3 x++34::z):=by simp [q3]
 rw[this] at h;cases h;exact⟨by decide,by decide⟩
theorem At.str {s:List UInt8}{P:Nat}{g x z:List UInt8}(h:At s P (g++(q3 x++z))) (hg: ∀b∈g,BO b=true) (hx:sD x=true):kS s P=1/\xS s P=x/\At s (nS s P) z:=by
 obtain⟨h1,h2,h3⟩:=h.tok hg (aNK x z) (aNJ hx);rw[aSZ] at h3;exact⟨h1,h2,h3⟩
def WG (w:List UInt8):Bool:=w.all KG&&(match w with|[]=>false|b::_=>GB b.toNat)
theorem aNL {b:UInt8}(h:xT b.toNat=false):KG b=true:=by
 unfold xT at h;unfold KG a6Z GB;simp only[aSY,aSC,aRm,aSu,aRk] at h⊢;omega
theorem aF7 {x:List UInt8}(h:sU x=true):WG x=true:=by
 cases x with
 |nil=>cases h
 |cons b t=>
  unfold sU at h;simp only[aRm,aRK,aR6,aSc] at h;obtain⟨⟨_,h1⟩,h2⟩:=h;have hb:GB b.toNat=true/\KG b=true:=by
   unfold yD at h1;unfold KG a6Z GB;simp only[aRm,aSu,aRk] at h1⊢;omega
  unfold WG;rw[aRm,List.all_cons,aRm];exact⟨⟨hb.2,aRW.2 fun c hc=>aNL (h2 c hc)⟩,hb.1⟩
theorem aNM {l:List (List UInt8)}{x:List UInt8}(h: ∀y∈l,y<x):ES l x=l++[x]:=by
 have hk:wE l x=l.length:=by
  unfold wE;rw[aSn.2 fun y hy=>by rw[BP];simpa using h y hy];rfl
 unfold ES;rw[hk,List.take_length,aSb,List.append_nil]
theorem aNN {l:List rH}{n v:List UInt8}(h: ∀y∈l,y.1<n):CG l n v=l++[(n,(v,()))]:=by
 have h1:yX l n=none:=by
  unfold yX;rw[aSn];intro y hy;have:=h y hy;simp only[aRU];intro he;rw[he] at this;exact List.lt_irrefl _ this
 have hk:zM l n=l.length:=by
  unfold zM;rw[aSn.2 fun y hy=>by rw[BP];simp [h y hy]];rfl
 unfold CG;rw[h1,hk,List.take_length,aSb,List.append_nil];rfl
theorem aNO {n:Int}(h0:0<=n) (h4:n<=4):wO (qD .str wN n)=n:=by
 have:n=0\/n=1\/n=2\/n=3\/n=4:=by omega
 rcases this with rfl|rfl|rfl|rfl|rfl<;>decide
theorem aF8 {l:List UInt8}(h: ∀b∈l,b.toNat<128):Lib.validD l=true:=by
 rw[Lib.validD_ascii l.length l (fun b hb=>h b (List.mem_of_mem_take hb)),aSb];rfl
theorem aNP {b:UInt8}(h:xT b.toNat=false):b.toNat<128:=by
 unfold xT at h;simp only[aSY,aSC,aRm,aRk] at h;omega
theorem KP {x:List UInt8}(h:sU x=true):sD x=true:=by
 cases x with
 |nil=>cases h
 |cons b t=>
  unfold sU at h;simp only[aRm,aRK,aR6,aSc,aRU] at h;obtain⟨⟨h0,h1⟩,h2⟩:=h;unfold sD;rw[aRm,aRk];refine⟨by simp only[aRj];omega,aF8 fun c hc=> ?_⟩;rcases aRv.1 hc with rfl|hc
  ·unfold yD at h1;simp only[aRm,aRk] at h1;omega
  ·exact aNP (h2 c hc)
theorem a7t {x:List UInt8}(h:vE x=true):sD x=true:=by
 unfold vE at h;simp only[aRm,aRK,aR6,aSc,aRk] at h;obtain⟨h0,h1,h2⟩:=h;unfold sD;rw[aRm,aRk];refine⟨by omega,aF8 fun c hc=> ?_⟩;have:=h0 c hc;unfold KA at this;simp only[aSY,aSC,aRm,aSo,aRk,aRU] at this;omega
theorem NM {l:List (List UInt8)}(h:vY l=true):l.length<=20/\∀x∈l,sD x=true:=by
 unfold vY at h;simp only[aRm,aRK,aR6,aRk,aSc,aSC] at h;exact⟨by omega,fun x hx=>by simpa using h.2 x hx⟩
theorem aF9 {α:Type}{r:α->α->Prop}(tr: ∀a b c,r a b->r b c->r a c) {l:List α}(h: ∀(i:Nat) (hi:i+1<l.length),r l[i] l[i+1]):l.Pairwise r:=by
 rw[aSm];intro i j hi hj hij;obtain⟨k,rfl⟩: ∃k,j=i+1+k:=⟨j-i-1,by omega⟩
 induction k with
 |zero=>exact h i hj
 |succ k ih=>exact tr _ _ _ (ih (by omega) (by omega)) (h (i+1+k) hj)
theorem BS {α:Type}{l:List α}{i:Nat}{d:α}(h:i<l.length):l.getD i d=l[i]:=by
 rw[aRD,aRn h];rfl
theorem WH {l:List (List UInt8)}(h:A4 l=true):l.length<=20/\(∀x∈l,sU x=true)/\l.Pairwise (· < ·):=by
 unfold A4 at h;simp only[aRm,aRK,aR6,aRk,aSU,aSc] at h;obtain⟨h1,h2⟩:=h;unfold R1 at h1;simp only[aSo,aSY,aSC,aRU] at h1;refine⟨by omega,fun x hx=> ?_,aF9 (r:=fun a b:List UInt8=>a<b) (fun a b c=>List.lt_trans) fun i hi=> ?_⟩
 ·obtain⟨i,hi,rfl⟩:=aS1 hx;have:=(h1 i hi).1;rwa [BS hi] at this
 ·have:=(h1 (i+1) hi).2;rw[BS hi,Nat.add_sub_cancel,BS (show i<l.length by omega),BP] at this;exact aRZ (this.resolve_left (by omega))
theorem GK {l:List rH}(h:vR l=true):l.length<=20/\(∀x∈l,sU x.1=true/\sD x.1=true/\sD x.2.1=true)/\l.Pairwise (fun a b=>a.1<b.1):=by
 unfold vR at h;simp only[aRm,aRK,aR6,aRk,aSU,aSc] at h;obtain⟨h1,h2⟩:=h;unfold R2 at h1;simp only[aSo,aSY,aSC,aRU] at h1;refine⟨by omega,fun x hx=> ?_,aF9 (r:=fun a b:rH=>a.1<b.1) (fun a b c=>List.lt_trans) fun i hi=> ?_⟩
 ·obtain⟨i,hi,rfl⟩:=aS1 hx;have:=(h1 i hi).1;rw[BS hi] at this;exact⟨this.1,KP this.1,this.2⟩
 ·have:=(h1 (i+1) hi).2;rw[BS hi,Nat.add_sub_cancel,BS (show i<l.length by omega),BP] at this;exact aRZ (this.resolve_left (by omega))
theorem aNQ {es:List rX}(h: ∀i,i<es.length->GI es i=false):es.Pairwise (fun a b=>a.1≠b.1):=by
 rw[aSm];intro i j hi hj hij he;have h1:=h j hj;unfold GI at h1;simp only[aSo,aR6,aRk] at h1;rw[BS hj] at h1;exact h1.1 es[i] (by rw[List.mem_take_iff_getElem];exact⟨i,by omega,rfl⟩) he
theorem EW {c:C4}(h:vS c=true):vE c.1=true/\vY c.2.1=true/\vR c.2.2.1=true/\c.2.2.2.1.length<=1000/\(∀x∈c.2.2.2.1,wF x=true)/\c.2.2.2.1.Pairwise (fun a b=>a.1≠b.1):=by
 have h':=h;unfold vS at h';simp only[aRm,aRK,aR6,aSU,aRk,aSc] at h';obtain⟨⟨⟨h1,h2⟩,h3⟩,h4,h5⟩:=h';refine⟨h1,h2,h3,by omega,fun x hx=> ?_,aNQ h5⟩;obtain⟨i,hi,rfl⟩:=aS1 hx;have:=aF5 h hi;rwa [BS hi] at this
theorem aNR {a b:List UInt8}(h: ¬a<b) (hne:a≠b):b<a:=by
 have:=a7j a b;rw[BP,BP] at this;have h1:decide (a<b)=false:=by simpa using h
 have h2:decide (b=a)=false:=by simpa using fun e=>hne e.symm
 rw[h1,h2] at this;simpa using this.symm
theorem a7u {α:Type}(f:α->List UInt8) {x:α}{p:α->Bool}: ∀{l:List α},l.Pairwise (fun a b=>f a<f b)->(∀y∈l,f y≠f x)->(∀y∈l,p y= !decide (f y<f x))->
  (l.take ((l.findIdx? p).getD l.length)++[x]++l.drop ((l.findIdx? p).getD l.length)).Pairwise (fun a b=>f a<f b)
 |[],_,_,_=>by simp
 |a::t,hp,hne,hpp=>by
  rw[aS5] at hp;have hpa:=hpp a aRB;rw[aSB];by_cases h:f a<f x
  ·have hpf:p a=false:=by rw[hpa];simpa using h
   rw[hpf];have ih:=a7u f (x:=x) hp.2 (fun y hy=>hne y (aRt _ hy)) (fun y hy=>hpp y (aRt _ hy));have e:((if false=true then some 0 else(t.findIdx? p).map fun i=>i+1).getD (a::t).length)=(t.findIdx? p).getD t.length+1:=by
    cases t.findIdx? p<;>rfl
   rw[e,List.take_succ_cons,aS2,List.cons_append,List.cons_append,aS5];refine⟨fun y hy=> ?_,ih⟩;rw[aRo] at hy;rcases aRO.1 hy with hy|hy
   ·exact hp.1 y (List.mem_of_mem_take hy)
   ·rcases aRv.1 hy with rfl|hy
    ·exact h
    ·exact hp.1 y (List.mem_of_mem_drop hy)
  ·have hpt:p a=true:=by rw[hpa];simpa using h
   rw[hpt];have hx:f x<f a:=aNR h (hne a aRB);show ([]++[x]++(a::t)).Pairwise _;rw[List.nil_append,aR4,aS5];refine⟨fun y hy=> ?_,aS5.2 hp⟩;rcases aRv.1 hy with rfl|hy
   ·exact hx
   ·exact List.lt_trans hx (hp.1 y hy)
theorem aGa {α:Type}{l:List α}{x y:α}{k:Nat}(h:y∈l.take k++[x]++l.drop k):y=x\/y∈l:=by
 rw[aRo] at h;rcases aRO.1 h with h|h
 ·exact .inr (List.mem_of_mem_take h)
 ·rcases aRv.1 h with h|h
  ·exact .inl h
  ·exact .inr (List.mem_of_mem_drop h)
theorem aGb {α:Type}{l:List α}{x:α}{k:Nat}:(l.take k++[x]++l.drop k).length=l.length+1:=by
 simp only[aRh,aRH,aRy,aR5];omega
theorem aNS {l:List (List UInt8)}(h:l.length<=20) (hx: ∀x∈l,sD x=true):vY l=true:=by
 unfold vY;simp only[aRm,aRK,aR6,aRk,aSC,aSc];exact⟨by omega,fun x hxl=>by simpa using hx x hxl⟩
theorem aGc {α:Type}{r:α->α->Prop}{l:List α}(h:l.Pairwise r) {i:Nat}(h0:0<i) (hi:i<l.length):r l[i-1] l[i]:=by
 rw[aSm] at h;exact h (i-1) i (by omega) hi (by omega)
theorem aNT {l:List (List UInt8)}(h:l.length<=20) (hx: ∀x∈l,sU x=true) (hp:l.Pairwise (· < ·)):A4 l=true:=by
 unfold A4;simp only[aRm,aRK,aR6,aRk,aSU,aSc];refine⟨fun i hi=> ?_,by omega⟩;unfold R1;rw[BS hi,hx _ (aSa hi)];by_cases h0:0<i
 ·rw[BS (show i-1<l.length by omega),BP];simp [aGc hp h0 hi]
 ·simp [h0]
theorem aNU {l:List rH}(h:l.length<=20) (hx: ∀x∈l,sU x.1=true/\sD x.2.1=true) (hp:l.Pairwise (fun a b=>a.1<b.1)):vR l=true:=by
 unfold vR;simp only[aRm,aRK,aR6,aRk,aSU,aSc];refine⟨fun i hi=> ?_,by omega⟩;unfold R2;obtain⟨a,b⟩:=hx _ (aSa hi);rw[BS hi,a,b];by_cases h0:0<i
 ·rw[BS (show i-1<l.length by omega),BP];simp [aGc hp h0 hi]
 ·simp [h0]
theorem aNV {l:List (List UInt8)}{x:List UInt8}(h:vY l=true) (hl: ¬20<=l.length) (hx:sD x=true):vY (l++[x])=true:=by
 obtain⟨h1,h2⟩:=NM h;refine aNS (by rw[aRh,aR5];omega) fun y hy=> ?_;rcases aRO.1 hy with hy|hy
 ·exact h2 y hy
 ·rw[aRr.1 hy];exact hx
theorem aNW {l:List (List UInt8)}{x:List UInt8}(h:A4 l=true) (hl: ¬20<=l.length) (hx:sU x=true) (hn: ¬(l.any fun y=>decide (y=x))=true):A4 (ES l x)=true:=by
 obtain⟨h1,h2,h3⟩:=WH h;have hne: ∀y∈l,y≠x:=fun y hy e=>hn (List.any_eq_true.2 ⟨y,hy,by simp [e]⟩);unfold ES wE;refine aNT (by rw[aGb];omega) (fun y hy=> ?_) (a7u (fun y=>y) h3 hne fun y _=>by rw[BP]);rcases aGa hy with rfl|hy
 ·exact hx
 ·exact h2 y hy
theorem aNX {l:List rH}{n v:List UInt8}(h:vR l=true) (hl: ¬20<=l.length) (hx:sU n=true) (hv:sD v=true) (hn: ¬(l.any fun y=>decide (y.1=n))=true):vR (CG l n v)=true:=by
 obtain⟨h1,h2,h3⟩:=GK h;have hne: ∀y∈l,y.1≠n:=fun y hy e=>hn (List.any_eq_true.2 ⟨y,hy,by simp [e]⟩);have hk:yX l n=none:=by
  unfold yX;rw[aSn];intro y hy;simpa using hne y hy
 unfold CG;rw[hk];show vR (l.take (zM l n)++[(n,v,())]++l.drop (zM l n))=true;unfold zM;refine aNU (by rw[aGb];omega) (fun y hy=> ?_) (a7u (fun y:rH=>y.1) (x:=(n,v,())) h3 hne fun y hy=> ?_)
 ·rcases aGa hy with rfl|hy
  ·exact⟨hx,hv⟩
  ·exact⟨(h2 y hy).1,(h2 y hy).2.2⟩
 ·rw[BP];have:decide (y.1=n)=false:=by simpa using hne y hy
  rw[this,Bool.or_false]
structure NN (sr tg:List UInt8) (cm fg:List (List UInt8)) (st:Int) (fd:List rH):Prop where
 sr:sD sr=true
 tg:sD tg=true
 cm:vY cm=true
 fg:A4 fg=true
 st:0<=st/\st<=4
 fd:vR fd=true
theorem a7v:NN [] [] [] [] 0 []:=⟨by decide,by decide,by decide,by decide,by decide,by decide⟩
theorem aNY (x:List UInt8) (h: ¬wO x<0):0<=wO x/\wO x<=4:=by
 refine⟨by omega,?_⟩;unfold wO at h⊢;cases hk:wN.findIdx? fun y=>decide (y=x) with
 |none=>exact show ((-1:Int))<=4 by decide
 |some k=>
  have hl:k<wN.length:=(aRT.1 hk).1;have hl':wN.length=5:=rfl;show ((k:Nat):Int)<=4;omega
theorem aNZ {id sr tg:List UInt8}{cm fg:List (List UInt8)}{st:Int}{fd:List rH}(hi:EQ id=true) (ht:sD id=true) (h:NN sr tg cm fg st fd):wF (id,(sr,(tg,(cm,(fg,(st,(fd,())))))))=true:=by
 unfold EQ at hi;unfold wF;dsimp only;rw[aRm] at hi;rw[hi.1,hi.2,ht,h.sr,h.tg,h.cm,h.fg,h.fd,aSd h.st.1,aSd h.st.2];rfl
structure GL (es:List rX):Prop where
 len:es.length<=1000
 ok: ∀x∈es,wF x=true
 pw:es.Pairwise (fun a b=>a.1≠b.1)
section
variable {s:List UInt8}(hsm:s.length<=4000000000) {bad:Int}{ends:List Int}{tag:List UInt8}{cms:List (List UInt8)}{fds:List rH}{es:List rX}
include hsm
omit hsm in
theorem WI {c:C4}(h1:vE c.1=true) (h2:vY c.2.1=true) (h3:vR c.2.2.1=true) (h4:GL c.2.2.2.1):vS c=true:=by
 unfold vS;rw[h1,h2,h3,aSd (show ((c.2.2.2.1.length:Int))<=1000 by have:=h4.len;omega)];simp only[Bool.true_and,aRK,aR6,aSU,aSc];intro i hi;unfold GI;rw[BS hi,h4.ok _ (aSa hi)];simp only[Bool.not_true,Bool.or_false,aR6,aRk];intro y hy;rw[List.mem_take_iff_getElem] at hy;obtain⟨j,hj,rfl⟩:=hy;exact aSm.1 h4.pw j i (by omega) hi (by omega)
end
set_option maxRecDepth 1000000
theorem wS {x:List UInt8}(h:sD x=true):x.length≤4000:=by
  unfold sD at h;simp only[aRm,aRk] at h;omega
structure a7w (x:rX):Prop where
  id:x.1.length≤4000
  src:x.2.1.length≤4000
  tgt:x.2.2.1.length≤4000
  com:x.2.2.2.1.length≤20∧∀y∈x.2.2.2.1,y.length≤4000
  flg:x.2.2.2.2.1.length≤20∧∀y∈x.2.2.2.2.1,y.length≤4000
  fld:x.2.2.2.2.2.2.1.length≤20∧∀y∈x.2.2.2.2.2.2.1,y.1.length≤4000∧y.2.1.length≤4000
theorem a7x {x:rX}(h:wF x=true):a7w x:=by
  have h':=h;unfold wF at h';simp only[aRm] at h';obtain⟨⟨⟨⟨⟨⟨⟨⟨hne,h200⟩,hid⟩,hsrc⟩,htgt⟩,hcom⟩,hflg⟩,_⟩,hfld⟩:=h';obtain⟨c1,c2⟩:=NM hcom;obtain⟨f1,f2,f3⟩:=WH hflg;obtain⟨g1,g2,g3⟩:=GK hfld;exact⟨wS hid,wS hsrc,wS htgt,⟨c1,fun y hy=>wS (c2 y hy)⟩,⟨f1,fun y hy=>wS (KP (f2 y hy))⟩,⟨g1,fun y hy=>⟨wS (g2 y hy).2.1,wS (g2 y hy).2.2⟩⟩⟩
theorem a7y {l:List (List UInt8)}(h:l.length≤20∧∀y∈l,y.length≤4000):EV l:=⟨by omega,fun y hy=>by have:=h.2 y hy;omega⟩
theorem aGd {l:List rH}(h:l.length≤20∧∀y∈l,y.1.length≤4000∧y.2.1.length≤4000):IH l:=⟨by omega,fun y hy=>by have:=h.2 y hy;omega⟩
theorem a7w.few {x:rX}(h:a7w x):KM x:=⟨by have:=h.id;omega,by have:=h.src;omega,by have:=h.tgt;omega,a7y h.com,a7y h.flg,aGd h.fld⟩
theorem aGe {c:C4}(h:vS c=true):W9 c:=by
  obtain⟨h1,h2,h3,h4,h5,_⟩:=EW h;obtain⟨c1,c2⟩:=NM h2;obtain⟨g1,g2,g3⟩:=GK h3;refine⟨?_,a7y ⟨c1,fun y hy=>wS (c2 y hy)⟩,aGd ⟨g1,fun y hy=>⟨wS (g2 y hy).2.1,wS (g2 y hy).2.2⟩⟩,h4,fun x hx=>(a7x (h5 x hx)).few⟩;unfold vE at h1;simp only[aRm,aRk] at h1;omega
theorem aGf {c:C4}(h:vS c=true):K0 c c=some ()∧((((decide (c.1=c.1))&&(val (wL c.2.1 c.2.1)))&&(val (zJ c.2.2.1 c.2.2.1)))&&(val (D7 c.2.2.2.1 c.2.2.2.1)))=true:=by
  obtain⟨h1,h2,h3,h4,h5,_⟩:=EW h;have f2:q8 c.2.1:=by have:=(NM h2).1;unfold q8;omega
  have f3:q8 c.2.2.1:=by have:=(GK h3).1;unfold q8;omega
  have f4:q8 c.2.2.2.1:=by unfold q8;omega
  have f5: ∀y∈c.2.2.2.1,N9 y:=fun y hy=>by
    have hs:=a7x (h5 y hy);exact⟨by have:=hs.com.1;unfold q8;omega,by have:=hs.flg.1;unfold q8;omega,by have:=hs.fld.1;unfold q8;omega⟩
  constructor
  · unfold K0 PY
    rw[NA _ f2,VU _ f3,aFa _ f4 f5];rw[if_pos vO,if_pos vO,aRf,if_pos vO]
  · rw[NA _ f2,VU _ f3,aFa _ f4 f5]
    simp [val]
def wT:Nat->List (List UInt8)->List Nat
 |_,[]=>[]
 |a,x::ps=>(a+x.length)::wT (a+x.length) ps
theorem R6: ∀(a:Nat) (ps:List (List UInt8)),(wT a ps).length=ps.length
 |_,[]=>rfl
 |a,x::ps=>by rw[wT,aRj,aRj,R6]
theorem WJ: ∀(ps:List (List UInt8)) (a j:Nat),j<=ps.length->(a::wT a ps).getD j 0=a+(ps.take j).flatten.length
 |_,a,0,_=>by simp
 |[],_,_+1,h=>by simp at h
 |x::ps,a,j+1,h=>by
  rw[wT,List.getD_cons_succ,WJ ps (a+x.length) j (by simpa using h),List.take_succ_cons,aRS,aRh];omega
theorem aN0 (ps:List (List UInt8)) (j:Nat):ps.flatten=(ps.take j).flatten++(ps.drop j).flatten:=by
 rw[<-List.flatten_append,aSs]
theorem a7z {s a b c:List UInt8}(h:s=a++(b++c)):q7 s (a.length:Nat) ((a.length+b.length:Nat):Int)=b:=by
 unfold q7;rw[aRY,aRY,h,aSZ,aR1,aSE]
theorem aN1 {s:List UInt8}{l:List Nat}{j:Nat}(h:j<l.length):(NI s l)[j]? =some (pc s l j):=by
 unfold NI;rw[List.getElem?_map,List.getElem?_range h];rfl
section
variable {s p0 t:List UInt8}{ps:List (List UInt8)}(hs:s=p0++(ps.flatten++t))
include hs
theorem aGg:pc s (p0.length::wT p0.length ps) 0=p0:=by
 have h:s=[]++(p0++(ps.flatten++t)):=hs;have:=a7z h;simp only[aRs,aRR] at this;exact this
theorem aGh:(NI s (p0.length::wT p0.length ps)).drop 1=ps:=by
 apply List.ext_getElem?;intro j;rw[List.getElem?_drop];by_cases hj:j<ps.length
 ·rw[aN1 (by rw[aRj,R6];omega),aRn hj];congr 1;have e1:(p0.length::wT p0.length ps).getD j 0=p0.length+(ps.take j).flatten.length:=WJ ps _ j (by omega);have e2:(p0.length::wT p0.length ps).getD (1+j) 0=p0.length+(ps.take (1+j)).flatten.length:=WJ ps _ _ (by omega);have e3:(ps.take (1+j)).flatten=(ps.take j).flatten++ps[j]:=by
   rw[Nat.add_comm,List.take_add_one,aRn hj,List.flatten_append];simp
  have e4:s=(p0++(ps.take j).flatten)++(ps[j]++((ps.drop (j+1)).flatten++t)):=by
   rw[hs,aN0 ps j,aRC hj,aRS];simp only[aRo]
  have e5:=a7z e4;rw[aRh] at e5;show q7 s ((if 1+j=0 then 0 else(p0.length::wT p0.length ps).getD (1+j-1) 0:Nat):Int) (((p0.length::wT p0.length ps).getD (1+j) 0:Nat):Int)=_;rw[if_neg (by omega),aR1,e1,e2,e3,aRh,<-aR0];exact e5
 ·rw[aSy (show ps.length<=j by omega),aSy];simp [R6];omega
theorem aGi:q7 s (NJ (p0.length::wT p0.length ps):Nat) (s.length:Int)=t:=by
 have e1:NJ (p0.length::wT p0.length ps)=p0.length+ps.flatten.length:=by
  unfold NJ;rw[aRj,R6,Nat.add_sub_cancel,WJ ps _ _ (Nat.le_refl _),List.take_length]
 have e4:s=(p0++ps.flatten)++(t++[]):=by rw[hs];simp
 have e5:=a7z e4;rw[aRh] at e5;have e6:s.length=p0.length+ps.flatten.length+t.length:=by rw[hs];simp only[aRh];omega
 rw[e1,e6];exact e5
end
theorem GM {s:List UInt8}{r:List UInt8×Bool}(h:DC s=some r) (hr:r.2=true):sD r.1=true:=by
 unfold DC at h;obtain⟨u,_,h⟩:=Vc.pS h;split at h
 ·cases h;simp only[aRm,aRk] at hr;have hf:q8 u.1:=by unfold q8;omega
  rw[<-(ID u.1 hf).2];simp only[aRm,aRk];exact hr.2
 ·cases h
theorem aN2 {s:List UInt8}{q:Int×List UInt8×List UInt8×Bool}(h:K5 s=some q) (hb:q.2.2.2=false):sD q.2.2.1=true/\q.1≠9:=by
 unfold K5 at h;obtain⟨u,_,h⟩:=Vc.pS h;split at h
 ·cases h;exact⟨by decide,by decide⟩
 ·obtain⟨t,ht,h⟩:=Vc.pS h;split at h
  ·cases h;exact⟨GM (r:=t) ht (by simpa using hb),by simp⟩
  ·split at h
   ·cases h;exact⟨GM (r:=t) ht (by simpa using hb),by simp⟩
   ·split at h
    ·cases h;exact⟨GM (r:=t) ht (by simpa using hb),by simp⟩
    ·split at h
     ·cases h;exact⟨GM (r:=t) ht (by simpa using hb),by simp⟩
     ·obtain⟨_,_,h⟩:=Vc.pS h;split at h
      ·split at h
       ·cases h;exact⟨GM (r:=t) ht (by simpa using hb),by simp⟩
       ·cases h
      ·cases h;exact⟨GM (r:=t) ht (by simpa using hb),by simp⟩
theorem aN3 {line:List UInt8}{q:Int×List UInt8×List UInt8×Bool}(h:u7 line=some q) (hb:q.2.2.2=false):sD q.2.2.1=true/\(q.1=9->sD q.2.1=true):=by
 unfold u7 at h;obtain⟨s,_,h⟩:=Vc.pS h;split at h
 ·cases h;exact⟨by decide,fun e=>absurd e (by decide)⟩
 ·obtain⟨_,_,h⟩:=Vc.pS h;split at h
  ·split at h
   ·cases h;exact⟨by decide,fun e=>absurd e (by decide)⟩
   ·split at h
    ·split at h
     ·cases h;exact⟨by decide,fun e=>absurd e (by decide)⟩
     ·split at h
      ·obtain⟨t,ht,h⟩:=Vc.pS h;cases h;exact⟨GM (r:=t) ht (by simpa using hb),fun e=>absurd e (by simp)⟩
      ·cases h
    ·cases h
  ·obtain⟨_,_,h⟩:=Vc.pS h;split at h
   ·cases h;exact⟨by decide,fun e=>absurd e (by decide)⟩
   ·obtain⟨_,_,h⟩:=Vc.pS h;split at h
    ·obtain⟨u,hu,h⟩:=Vc.pS h;cases h;obtain⟨g1,g2⟩:=aN2 hu hb;exact⟨g1,fun e=>absurd e g2⟩
    ·split at h
     ·cases h;exact⟨by decide,fun e=>absurd e (by decide)⟩
     ·obtain⟨u,_,h⟩:=Vc.pS h;split at h
      ·cases h;exact⟨by decide,fun e=>absurd e (by decide)⟩
      ·obtain⟨t1,h1,h⟩:=Vc.pS h;obtain⟨t2,h2,h⟩:=Vc.pS h;cases h;simp only[aSo,aSC] at hb;exact⟨GM (r:=t2) h2 hb.2,fun _=>GM (r:=t1) h1 hb.1⟩
theorem aN4 {s:List UInt8}(h:val (yC s)=true):q8 s:=by
 by_cases hl:s.length<=40
 ·unfold q8;omega
 ·exfalso;unfold yC at h;rw[if_pos (fun _=>⟨aSi _,by omega⟩),if_pos (by simp;omega)] at h;exact aRV h
theorem rY {α:Type}{c:Prop}[Decidable c] {a b r:α}(h:(if c then a else b)=r):(c/\a=r)\/(¬c/\b=r):=by
 by_cases hc:c
 ·rw[if_pos hc] at h;exact .inl ⟨hc,h⟩
 ·rw[if_neg hc] at h;exact .inr ⟨hc,h⟩
abbrev BX (x:HG):Prop:=NN x.1.2.1 [] x.1.2.2.2.1 x.1.2.2.2.2.1 x.1.2.2.2.2.2.1 x.1.2.2.2.2.2.2.1
abbrev aN5:=(List UInt8)×(List (List UInt8))×(List (List UInt8))×Int×(List qB)×Bool×Bool×Int
theorem a7A {x:HG}{p:HH}{r:aN5}(h:tG x p=some r) (hi:BX x) (hp:p.2.2.2.1=false->sD p.2.2.1=true) (he:r.2.2.2.2.2.2.2=0):NN r.1 [] r.2.1 r.2.2.1 r.2.2.2.1 r.2.2.2.2.1:=by
 have f1:q8 x.1.2.2.2.2.1:=by have:=(WH hi.fg).1;unfold q8;omega
 have f2:q8 x.1.2.2.2.2.2.2.1:=by have:=(GK hi.fd).1;unfold q8;omega
 unfold tG at h;rcases rY h with⟨hc0,h⟩ |⟨hc0,h⟩
 ·rcases rY h with⟨hc1,h⟩ |⟨hc1,h⟩
  ·cases h;exact absurd he (by simp)
  ·have hb:=hc1;have hv:=hp (by simpa using hb);rcases rY h with⟨hc2,h⟩ |⟨hc2,h⟩
   ·cases h;exact absurd he (by simp)
   ·have h20:=hc2;rcases rY h with⟨hc3,h⟩ |⟨hc3,h⟩
    ·rcases rY h with⟨hc4,h⟩ |⟨hc4,h⟩
     ·cases h;exact⟨hi.sr,hi.tg,by rw[List.nil_append];exact aNV hi.cm (fun hh=>h20 (aSd (by omega))) hv,hi.fg,hi.st,hi.fd⟩
     ·cases h
    ·cases h
 ·rcases rY h with⟨hc5,h⟩ |⟨hc5,h⟩
  ·rcases rY h with⟨hc6,h⟩ |⟨hc6,h⟩
   ·cases h;exact absurd he (by simp)
   ·have hb:=hc6;have hv:=hp (by simpa using hb);rcases rY h with⟨hc7,h⟩ |⟨hc7,h⟩
    ·cases h;exact absurd he (by simp)
    ·cases h;exact⟨hv,hi.tg,hi.cm,hi.fg,hi.st,hi.fd⟩
  ·rcases rY h with⟨hc8,h⟩ |⟨hc8,h⟩
   ·rw[VF,if_pos vO] at h;rcases rY h with⟨hc9,h⟩ |⟨hc9,h⟩
    ·cases h;exact absurd he (by simp)
    ·have hs:=hc9;rcases rY h with⟨hc10,h⟩ |⟨hc10,h⟩
     ·cases h;exact absurd he (by simp)
     ·rw[aRf] at h;cases h;have hs': ¬wO p.2.2.1<0:=by
       intro hh;apply hs;show (p.2.2.2.1||decide (wO p.2.2.1<0))=true
       simp [hh]
      exact⟨hi.sr,hi.tg,hi.cm,hi.fg,aNY _ hs',hi.fd⟩
   ·rcases rY h with⟨hc11,h⟩ |⟨hc11,h⟩
    ·rcases rY h with⟨hc12,h⟩ |⟨hc12,h⟩
     ·rcases rY h with⟨hc13,h⟩ |⟨hc13,h⟩
      ·cases h;exact absurd he (by simp)
      ·have hs:=hc13;cases hb:p.2.2.2.1 with
       |true=>exact absurd (by simp [hb]) hs
       |false=>
        have hv:=hp hb;have hf:q8 p.2.2.1:=by have:=wS hv;unfold q8;omega
        rw[EK _ hf,hb] at hs;have hn:sU p.2.2.1=true:=by
         cases hq:sU p.2.2.1 with
         |true=>rfl
         |false=>rw[hq] at hs;exact absurd rfl hs
        rw[a7f _ _ f1,aRf] at h;rcases rY h with⟨hc14,h⟩ |⟨hc14,h⟩
        ·cases h;exact absurd he (by simp)
        ·have hany:=hc14;rcases rY h with⟨hc15,h⟩ |⟨hc15,h⟩
         ·cases h;exact absurd he (by simp)
         ·have h20:=hc15;rw[a7g f1,aRf] at h;cases h;exact⟨hi.sr,hi.tg,hi.cm,aNW hi.fg (fun hh=>h20 (aSd (by omega))) hn hany,hi.st,hi.fd⟩
     ·cases h
    ·rcases rY h with⟨hc16,h⟩ |⟨hc16,h⟩
     ·rcases rY h with⟨hc17,h⟩ |⟨hc17,h⟩
      ·rcases rY h with⟨hc18,h⟩ |⟨hc18,h⟩
       ·cases h;exact absurd he (by simp)
       ·have hs:=hc18;cases hb:p.2.2.2.1 with
        |true=>exact absurd (by simp [hb]) hs
        |false=>
         have hv:=hp hb;have hn:val (yC p.2.1)=true:=by
          cases hq:val (yC p.2.1) with
          |true=>rfl
          |false=>exact absurd (by rw[hq,hb];rfl) hs
         have hnk:sU p.2.1=true:=by
          have hf:=aN4 hn;rw[EK _ hf] at hn;exact hn
         rw[a6K _ _ f2,aRf] at h;rcases rY h with⟨hc19,h⟩ |⟨hc19,h⟩
         ·cases h;exact absurd he (by simp)
         ·have hany:=hc19;rw[a6J] at hany;rcases rY h with⟨hc20,h⟩ |⟨hc20,h⟩
          ·cases h;exact absurd he (by simp)
          ·have h20:=hc20;rw[a6L _ _ _ f2,aRf] at h;cases h;exact⟨hi.sr,hi.tg,hi.cm,hi.fg,hi.st,aNX hi.fd (fun hh=>h20 (aSd (by omega))) hnk hv hany⟩
      ·cases h
     ·cases h;exact hi
theorem aN6 {c:tY}{x:HG}{p:HH}{r:List qQ×Int}(h:E9 c x p=some r) (hi:BX x) (hes:GL c.2.2.2.1) (hp:p.2.2.2.1=false->sD p.2.2.1=true/\sD p.2.1=true) (he:r.2=0):GL r.1/\r.1.length=c.2.2.2.1.length+1:=by
 unfold E9 at h;rcases rY h with⟨hc0,h⟩ |⟨hc0,h⟩
 ·cases h;exact absurd he (by simp)
 ·simp only[aSu,aRk,not_or,aSc] at hc0;obtain⟨⟨hb,hne⟩,h200⟩:=hc0;obtain⟨hv,hk⟩:=hp hb;rw[VS _ _ (show c.2.2.2.1.length<=5000 by have:=hes.len;omega),aRf,a61] at h;rcases rY h with⟨hc1,h⟩ |⟨hc1,h⟩
  ·cases h;exact absurd he (by simp)
  ·rcases rY h with⟨hc2,h⟩ |⟨hc2,h⟩
   ·cases h;exact absurd he (by simp)
   ·rcases rY h with⟨hc3,h⟩ |⟨hc3,h⟩
    ·rcases rY h with⟨hc4,h⟩ |⟨hc4,h⟩
     ·cases h;have hm: ¬(1000:Int)<=(c.2.2.2.1.length:Int):=fun hh=>hc2 (aSd hh);refine⟨⟨?_,fun y hy=> ?_,?_⟩,?_⟩
      ·simp only[List.nil_append,aRh,aR5];omega
      ·rw[List.nil_append] at hy;rcases aRO.1 hy with hy|hy
       ·exact hes.ok y hy
       ·rw[aRr.1 hy];refine aNZ (sr:=x.1.2.1) (tg:=p.2.2.1) (cm:=x.1.2.2.2.1) (fg:=x.1.2.2.2.2.1) (st:=x.1.2.2.2.2.2.1) (fd:=x.1.2.2.2.2.2.2.1) ?_ hk ⟨hi.sr,hv,hi.cm,hi.fg,hi.st,hi.fd⟩;unfold EQ;simp only[aRm,aRK,aRU,aRk];exact⟨hne,by omega⟩
      ·rw[List.nil_append,aSA];refine⟨hes.pw,aSS _ _,fun a ha b hb2=> ?_⟩;rw[aRr.1 hb2];intro e;exact hc1 (List.any_eq_true.2 ⟨a,ha,aSd e⟩)
      ·simp only[List.nil_append,aRh,aR5]
     ·cases h
    ·cases h
theorem aN7 {v:List UInt8}(h:val (MG v)=true) (ht:sD v=true):vE v=true:=by
 have hf:q8 v:=by have:=wS ht;unfold q8;omega
 rw[VC _ hf] at h;exact h
def a7B (t:List UInt8):Prop:=t=[]\/vE t=true
abbrev a7C:=(List UInt8)×(List (List UInt8))×(List qB)×(List UInt8)×(List UInt8)×(List UInt8)×(List (List UInt8))×(List (List UInt8))×Int×(List qB)×Bool×Bool×Int×Bool×Int
def aN8 (r:a7C):Prop:=
 NN r.2.2.2.2.1 [] r.2.2.2.2.2.2.1 r.2.2.2.2.2.2.2.1 r.2.2.2.2.2.2.2.2.1 r.2.2.2.2.2.2.2.2.2.1/\
 ((r.2.2.2.2.2.2.2.2.2.2.2.2.2.1=false/\a7B r.1)\/(r.2.2.2.2.2.2.2.2.2.2.2.2.2.1=true/\vE r.1=true/\vY r.2.1=true/\vR r.2.2.1=true))
theorem aN9 {c:tY}{x:HG}{p:HH}{r:a7C}(h:xG c x p=some r) (hi:BX x) (hc:a7B c.1) (hp:p.2.2.2.1=false->sD p.2.2.1=true) (he:r.2.2.2.2.2.2.2.2.2.2.2.2.2.2=0):aN8 r:=by
 unfold xG at h;obtain⟨b1,_,h⟩:=Vc.pS h;rcases rY h with⟨_,h⟩ |⟨_,h⟩
 ·cases h;exact⟨hi,.inl ⟨rfl,hc⟩⟩
 ·obtain⟨b2,_,h⟩:=Vc.pS h;rcases rY h with⟨_,h⟩ |⟨_,h⟩
  ·obtain⟨a,ha,h⟩:=Vc.pS h;cases h;exact⟨a7A ha hi hp he,.inl ⟨rfl,hc⟩⟩
  ·rcases rY h with⟨_,h⟩ |⟨_,h⟩
   ·rcases rY h with⟨_,h⟩ |⟨_,h⟩
    ·rcases rY h with⟨hb,h⟩ |⟨hb,h⟩
     ·cases h;exact absurd he (by simp)
     ·rcases rY h with⟨_,h⟩ |⟨_,h⟩
      ·cases h;exact absurd he (by simp)
      ·cases h;simp only[aSu,aRK,not_or,aSc,Bool.not_eq_false] at hb;exact⟨hi,.inl ⟨rfl,.inr (aN7 hb.2 (hp hb.1))⟩⟩
    ·cases h
   ·rcases rY h with⟨_,h⟩ |⟨_,h⟩
    ·rcases rY h with⟨ht,h⟩ |⟨ht,h⟩
     ·cases h;exact absurd he (by simp)
     ·cases h;have ht':c.1≠[]:=fun e=>ht (aSd e);exact⟨a7v,.inr ⟨rfl,hc.resolve_left ht',hi.cm,hi.fd⟩⟩
    ·cases h;exact absurd he (by simp)
structure BG (ends:List Int) (tag:List UInt8) (cms:List (List UInt8)) (fds:List rH) (es:List rX) (src:List UInt8) (cm fl:List (List UInt8)) (st:Int) (fd:List rH):Prop where
 blk:NN src [] cm fl st fd
 out:ends=[]->a7B tag/\es=[]
 inn:ends≠[]->vE tag=true/\vY cms=true/\vR fds=true/\GL es/\ends.length=es.length+1
abbrev a7D (b:RS):Prop:=BG b.1 b.2.2.2.1 b.2.2.2.2.1 b.2.2.2.2.2.1 b.2.2.2.2.2.2.1 b.2.2.2.2.2.2.2.2.1 b.2.2.2.2.2.2.2.2.2.2.1 b.2.2.2.2.2.2.2.2.2.2.2.1 b.2.2.2.2.2.2.2.2.2.2.2.2.1 b.2.2.2.2.2.2.2.2.2.2.2.2.2.1
theorem aOa {line:List UInt8}{b b':RS}(h:uT line b=some (.inl b')) (hi:a7D b):a7D b':=by
 unfold uT at h;obtain⟨q,hq,h⟩:=Vc.pS h;obtain⟨r,hr,h⟩:=Vc.pS h;have hp:=aN3 hq;obtain⟨b1,b2,b3,b4,b5,b6,b7,b8,b9,b10,b11,b12,b13,b14,GC,b16,b17⟩:=b;rcases rY h with⟨_,h⟩ |⟨hz,h⟩
 ·cases h
 ·have hz':r.1=0:=by simpa using hz
  unfold tT at hr;rcases rY hr with⟨hlen,hr⟩ |⟨hlen,hr⟩
  ·have hb1:b1=[]:=by
    have:b1.length=0:=by simpa using hlen
    exact aSh.1 this
   subst hb1;obtain⟨w,hw,hr⟩:=Vc.pS hr;cases hr;have ho:=aN9 hw hi.blk (hi.out rfl).1 (fun e=>(hp e).1) hz';have hes:=(hi.out rfl).2;dsimp only at hes;subst hes;rcases ho with⟨o1,⟨o2,o3⟩ |⟨o2,o3,o4,o5⟩⟩
   ·dsimp only at h;rw[if_neg (by rw[o2];decide)] at h;cases h;exact⟨o1,fun _=>⟨o3,rfl⟩,fun e=>absurd rfl e⟩
   ·dsimp only at h;rw[if_pos o2] at h;rcases rY h with⟨_,h⟩ |⟨_,h⟩
    ·cases h;exact⟨o1,fun e=>absurd e (by simp),fun _=>⟨o3,o4,o5,⟨aSg _,fun x hx=>(by cases hx),List.Pairwise.nil⟩,rfl⟩⟩
    ·cases h
  ·have hb1:b1≠[]:=fun e=>hlen (by simp [e]);obtain⟨i1,i2,i3,i4,i5⟩:=hi.inn hb1;rcases rY hr with⟨h9,hr⟩ |⟨h9,hr⟩
   ·obtain⟨w,hw,hr⟩:=Vc.pS hr;cases hr;have h9':q.1=9:=by simpa using h9
    obtain⟨g1,g2⟩:=aN6 hw hi.blk i4 (fun e=>⟨(hp e).1,(hp e).2 h9'⟩) hz';dsimp only at h;rw[if_pos rfl] at h;rcases rY h with⟨_,h⟩ |⟨_,h⟩
    ·cases h;refine⟨a7v,fun e=>absurd e (by simp),fun _=>⟨i1,i2,i3,g1,?_⟩⟩;dsimp only at i5 g2⊢;rw[aRh,aR5,g2,i5]
    ·cases h
   ·rcases rY hr with⟨_,hr⟩ |⟨_,hr⟩
    ·obtain⟨w,hw,hr⟩:=Vc.pS hr;rcases rY hr with⟨_,hr⟩ |⟨_,hr⟩
     ·cases hr;have hA:=a7A hw hi.blk (fun e=>(hp e).1) hz';dsimp only at h;rw[if_neg (by decide)] at h;cases h;exact⟨hA,fun e=>absurd e hb1,fun _=>⟨i1,i2,i3,i4,i5⟩⟩
     ·cases hr;have hA:=a7A hw hi.blk (fun e=>(hp e).1) hz';dsimp only at h;rw[if_neg (by decide)] at h;cases h;exact⟨hA,fun e=>absurd e hb1,fun _=>⟨i1,i2,i3,i4,i5⟩⟩
    ·rcases rY hr with⟨_,hr⟩ |⟨_,hr⟩
     ·cases hr;exact absurd hz' (by simp)
     ·cases hr;dsimp only at h;rw[if_neg (by decide)] at h;cases h;exact⟨hi.blk,fun e=>absurd e hb1,fun _=>⟨i1,i2,i3,i4,i5⟩⟩
theorem aGj: ∀(ls:List (List UInt8)) (b:RS) (f:FR),sL ls b=some (.inl f)->a7D b->BG f.1 f.2.1 f.2.2.1 f.2.2.2.1 f.2.2.2.2.1 f.2.2.2.2.2.2.1 f.2.2.2.2.2.2.2.2.1 f.2.2.2.2.2.2.2.2.2.1 f.2.2.2.2.2.2.2.2.2.2.1 f.2.2.2.2.2.2.2.2.2.2.2.1
 |[],b,f,h,hi=>by
  cases h;exact hi
 |l::ls,b,f,h,hi=>by
  unfold sL at h;obtain⟨w,hw,h⟩:=Vc.pS h;cases w with
  |inl b'=>exact aGj ls b' f h (aOa hw hi)
  |inr e=>cases h
theorem a7E: ∀(ls:List (List UInt8)) (b:RS) (e:ER7),sL ls b=some (.inr e)->e.2.2.2.2.2.2≠0/\e.1=[]/\e.2.1=[]/\e.2.2.1=[]/\e.2.2.2.1=[]/\e.2.2.2.2.1=[]
 |[],b,e,h=>by cases h
 |l::ls,b,e,h=>by
  unfold sL at h;obtain⟨w,hw,h⟩:=Vc.pS h;cases w with
  |inl b'=>exact a7E ls b' e h
  |inr e'=>
   cases h;unfold uT at hw;obtain⟨q,_,hw⟩:=Vc.pS hw;obtain⟨r,_,hw⟩:=Vc.pS hw;rcases rY hw with⟨hz,hw⟩ |⟨_,hw⟩
   ·cases hw;exact⟨by simpa using hz,rfl,rfl,rfl,rfl,rfl⟩
   ·rcases rY hw with⟨_,hw⟩ |⟨_,hw⟩
    ·rcases rY hw with⟨_,hw⟩ |⟨_,hw⟩
     ·cases hw
     ·cases hw
    ·cases hw
theorem aGk {s:List UInt8}(hsm:s.length<=4000000000): ∃v,DE s=some v/\(v.2.2.2.2.2.2=0->vS (v.1,(v.2.1,(v.2.2.1,(v.2.2.2.1,()))))=true/\v.2.2.2.2.1.length=v.2.2.2.1.length+1)/\(v.2.2.2.2.2.2≠0->v.1=[]/\v.2.1=[]/\v.2.2.1=[]/\v.2.2.2.1=[]/\v.2.2.2.2.1=[]):=by
 obtain⟨v,h0,_⟩:=VW hsm;refine⟨v,h0,?_⟩;unfold DE at h0;rw[QX hsm,aRf] at h0;obtain⟨w,hw,h0⟩:=Vc.vC h0;have hw':sL (LN s) BQ=some w:=by rw[<-VZ hsm];exact hw
 cases w with
 |inr e=>
  cases h0;obtain⟨e1,e2⟩:=a7E _ _ _ hw';exact⟨fun h=>absurd h e1,fun _=>e2⟩
 |inl f=>
  have hi:=aGj _ _ _ hw' ⟨a7v,fun _=>⟨.inl rfl,rfl⟩,fun e=>absurd rfl e⟩;obtain⟨f1,f2,f3,f4,f5,f6,f7,f8,f9,f10,f11,f12,f13,f14,f15⟩:=f;dsimp only at h0;rcases rY h0 with⟨hl,h0⟩ |⟨hl,h0⟩
  ·cases h0;exact⟨fun h=>absurd h (by simp),fun _=>⟨rfl,rfl,rfl,rfl,rfl⟩⟩
  ·have hne:f1≠[]:=fun e=>hl (by simp [e]);rcases rY h0 with⟨_,h0⟩ |⟨_,h0⟩
   ·cases h0;exact⟨fun h=>absurd h (by simp),fun _=>⟨rfl,rfl,rfl,rfl,rfl⟩⟩
   ·cases h0;obtain⟨i1,i2,i3,i4,i5⟩:=hi.inn hne;exact⟨fun _=>⟨WI i1 i2 i3 i4,i5⟩,fun h=>absurd rfl h⟩
theorem aOb:MW=some true:=by kernel_rfl
def s7 (a b:List UInt8):List UInt8:=((a++[32,61,32])++rV 1 b)++[10]
theorem KQ {a b:List UInt8}(ha:a.length≤36002) (hb:b.length≤6000):(s7 a b).length≤72006:=by
  have:=GJ (n:=1) (.inl rfl) b;simp only[s7,aRh,aRj,aRs];omega
theorem a7F {s:List UInt8}(h:s.length≤6000):EG (1:Int) s=some (rV 1 s):=aNA (n:=1) (.inl rfl) (II h)
theorem WK {b:List Int}{s:List UInt8}(h:b.length+s.length≤140737488355328):yA (b,()) s=some ():=by
  unfold yA;exact if_pos h
theorem NO {w:List Int}{a b:List UInt8}(ha:a.length≤36002) (hb:b.length≤6000) (hw:w.length≤100000000000):zY (w,()) a b=some (w++s5 (s7 a b)):=by
  have h1:=KQ ha hb;have h2:=GJ (n:=1) (.inl rfl) b;unfold s7 at*;unfold zY;rw[if_pos (NK (n:=1000000000) (by simp only[aRh,aRj,aRs];omega) (by decide)),a7F hb,aRf,if_pos (NK (n:=1000000000) (by simp only[aRh,aRj,aRs];omega) (by decide)),if_pos (NK (n:=1000000000) (by simp only[aRh,aRj,aRs];omega) (by decide)),WK (by omega),aRf]
def tJ (s:List UInt8):List UInt8:=([35,46,32]++rV 1 s)++[10]
def EX (l:List (List UInt8)):List UInt8:=l.flatMap tJ
theorem aGl {s:List UInt8}(h:s.length≤6000):(tJ s).length≤36004:=by
  have:=GJ (n:=1) (.inl rfl) s;simp only[tJ,aRh,aRj,aRs];omega
theorem aGm {l:List (List UInt8)}(h:EV l):(EX l).length≤216024000:=by
  have:=KN (l:=l) (h:=tJ) (B:=36004) fun x hx=>aGl (h.2 x hx);have h1:=h.1;unfold EX
  calc _≤l.length*36004:=this
    _≤6000*36004:=aTc _ h1
theorem aGn {l:List (List UInt8)}(h:EV l) {w:List Int}(hw:w.length≤1000000000):G3 (w,()) l=some (w++s5 (EX l)):=by
  have hl:=h.1
  have k:=R4 (f:=QD l) (fun i b=>(i,b)) (fun b=>b) (n:=l.length) (M:=100000000000) (B:=36004) (fun i=>s5 (tJ (l.getD i []))) (fun i hi=>by rw[AX];exact aGl (WD h hi)) w (by omega) (fun i s hi hM=>by
    have h1:=GJ (n:=1) (.inl rfl) (l.getD i []);have h2:=WD h hi;unfold QD;dsimp only;rw[if_pos (tO hi),if_pos (sA hi),W5,a7F h2,aRf,if_pos (NK (n:=1000000000) (by simp only[aRh,aRj,aRs];omega) (by decide)),if_pos (NK (n:=1000000000) (by simp only[aRh,aRj,aRs];omega) (by decide)),WK (by simp only[aRh,aRj,aRs];omega),aRf,if_pos (tC (by omega))];rfl) (fun b=>by
    unfold QD;dsimp only;rw[if_neg (vI _)])
  unfold G3;rw[k,WB,WA (l:=l) (d:=[]) tJ];rfl
def uU (f:rH):List UInt8:=s7 ([33,58]++f.1) f.2.1
def GN (l:List rH):List UInt8:=l.flatMap uU
theorem aGo {f:rH}(h:f.1.length≤6000∧f.2.1.length≤6000):(uU f).length≤72006:=KQ (by simp only[aRh,aRj,aRs];omega) h.2
theorem aGp {l:List rH}(h:IH l):(GN l).length≤432036000:=by
  have:=KN (l:=l) (h:=uU) (B:=72006) fun x hx=>aGo (h.2 x hx);have h1:=h.1;unfold GN
  calc _≤l.length*72006:=this
    _≤6000*72006:=aTc _ h1
theorem aGq {l:List rH}(h:IH l) {w:List Int}(hw:w.length≤2000000000):G4 (w,()) l=some (w++s5 (GN l)):=by
  have hl:=h.1
  have k:=R4 (f:=QE l) (fun i b=>(i,b)) (fun b=>b) (n:=l.length) (M:=10000000000) (B:=72006) (fun i=>s5 (uU (l.getD i fD))) (fun i hi=>by rw[AX];exact aGo (aF4 h hi)) w (by omega) (fun i s hi hM=>by
    have h2:=aF4 h hi;unfold QE;dsimp only;rw[if_pos (tO hi),if_pos (sA hi),a7k,if_pos (NK (n:=1000000000) (by simp only[aRh,aRj,aRs];omega) (by decide)),NO (by simp only[aRh,aRj,aRs];omega) h2.2 (by omega),aRf,if_pos (tC (by omega))];rfl) (fun b=>by
    unfold QE;dsimp only;rw[if_neg (vI _)])
  unfold G4;rw[k,WB,WA (l:=l) (d:=fD) uU];rfl
abbrev yI:List UInt8:=[33,102,108,97,103]
abbrev R7:List UInt8:=[33,115,111,117,114,99,101]
abbrev R9:List UInt8:=[33,115,116,97,116,101]
abbrev EY:List UInt8:=[33,116,97,103]
def KR (l:List (List UInt8)):List UInt8:=l.flatMap (s7 yI)
theorem aOc {l:List (List UInt8)}(h:EV l):(KR l).length≤432036000:=by
  have:=KN (l:=l) (h:=s7 yI) (B:=72006) fun x hx=>KQ (by decide) (h.2 x hx);have h1:=h.1;unfold KR
  calc _≤l.length*72006:=this
    _≤6000*72006:=aTc _ h1
theorem aOd {x:rX}(h:KM x) {w:List Int}(hw:w.length≤2000000000):qM (MQ x) ((0:Int),w)=some (w++s5 (KR x.2.2.2.2.1)):=by
  have hl:=h.flg.1
  have k:=R4 (f:=MQ x) (fun i b=>(i,b)) (fun b=>b) (n:=x.2.2.2.2.1.length) (M:=10000000000) (B:=72006) (fun i=>s5 (s7 yI (x.2.2.2.2.1.getD i []))) (fun i hi=>by rw[AX];exact KQ (by decide) (WD h.flg hi)) w (by omega) (fun i s hi hM=>by
    unfold MQ;dsimp only;rw[if_pos (tO hi),if_pos (sA hi),W5,NO (by decide) (WD h.flg hi) (by omega),aRf,if_pos (tC (by omega))]) (fun b=>by
    unfold MQ;dsimp only;rw[if_neg (vI _)])
  rw[k,WB,WA (l:=x.2.2.2.2.1) (d:=[]) (s7 yI)];rfl
def GO (x:rX):List UInt8:=[10]++EX x.2.2.2.1
def GP (x:rX):List UInt8:=GO x++(if x.2.1=[] then[] else s7 R7 x.2.1)
def KS (x:rX):List UInt8:=GP x++(if x.2.2.2.2.2.1=0 then[] else s7 R9 (qD .str wN x.2.2.2.2.2.1))
def uN (x:rX):List UInt8:=((KS x++KR x.2.2.2.2.1)++GN x.2.2.2.2.2.2.1)++s7 (rV 1 x.1) x.2.2.1
section
variable {x:rX}(h:KM x) (h0:0≤x.2.2.2.2.2.1) (h4:x.2.2.2.2.2.1≤4)
include h
theorem aGr:(GO x).length≤216024001:=by
  have h2:=aGm h.com;simp only[GO,aRh,aRj,aRs];omega
theorem aGs:(GP x).length≤216096007:=by
  have h1:=aGr h;have h2:=KQ (a:=R7) (by decide) h.src;unfold GP;rw[aRh];split
  ·simp only[aRs];omega
  ·omega
theorem aOe:(rV 1 x.1).length≤36002:=by
  have:=GJ (n:=1) (.inl rfl) x.1;have:=h.id;omega
include h0 h4
theorem aOf:(KS x).length≤216168013:=by
  have h1:=aGs h;have h2:=KQ (a:=R9) (b:=qD .str wN x.2.2.2.2.2.1) (by decide) (by have:=a7r h0 h4;omega);unfold KS;rw[aRh];split
  ·simp only[aRs];omega
  ·omega
theorem aOg:K2 x=some (uN x):=by
  have lA:=aGr h;have lB:=aGs h;have lC:=aOf h h0 h4;have lf:=aOc h.flg;have lg:=aGp h.fld;have s4:=a7r h0 h4
  have eA:([]:List Int)++s5 ([10]:List UInt8)++s5 (EX x.2.2.2.1)=s5 (GO x):=by
    unfold GO;rw[BN,List.nil_append]
  have eB: ∀K:List Int→Option (List UInt8),((if (!decide (x.2.1=([]:List UInt8)))=true then(zY (s5 (GO x),()) ([33,115,111,117,114,99,101]:List UInt8) x.2.1).bind fun O=>some (O) else some (s5 (GO x))).bind K)=K (s5 (GP x)):=by
    intro K;unfold GP;by_cases he:x.2.1=[]
    ·rw[if_neg (by simp [he]),if_pos he,List.append_nil,aRf]
    ·rw[if_pos (by simp [he]),if_neg he,NO (by decide) h.src (by rw[AX];omega),aRf,aRf,BN]
  have eC: ∀K:List Int→Option (List UInt8),((if (!decide (x.2.2.2.2.2.1=(0:Int)))=true then
    if 0≤x.2.2.2.2.2.1∧x.2.2.2.2.2.1<(wN.length:Int) then
     (zY (s5 (GP x),()) ([33,115,116,97,116,101]:List UInt8) (qD .str wN x.2.2.2.2.2.1)).bind fun Z=>
     some (Z)
    else none
   else
    some (s5 (GP x))).bind K)=K (s5 (KS x)):=by
    intro K;unfold KS;by_cases he:x.2.2.2.2.2.1=0
    ·rw[if_neg (by simp [he]),if_pos he,List.append_nil,aRf]
    ·rw[if_pos (by simp [he]),if_neg he,if_pos ⟨h0,by show _<(5:Int);omega⟩,NO (by decide) (by omega) (by rw[AX];omega),aRf,aRf,BN]
  unfold K2;rw[WK (by simp),aRf,aGn h.com (by simp [s5]),aRf,eA];unfold rL;refine(eB _).trans ?_;refine(eC _).trans ?_;rw[aOd h (by rw[AX];omega),aRf,aGq h.fld (by rw[aRh,AX,AX];omega),aRf,a7F h.id,aRf,NO (aOe h) h.tgt (by simp only[aRh,AX];omega),aRf,←BN,←BN,←BN,N5];rfl
end
def wU (c:C4):List UInt8:=((EX c.2.1++s7 EY c.1)++GN c.2.2.1)++[37,37,10]
theorem aGt {c:C4}(hc:W9 c):EJ c=some (if vS c=true then(wU c,c.2.2.2.1.map uN,0) else([],[],1)):=by
  unfold EJ;rw[aNu hc.fitP,aRf];by_cases hok:vS c=true
  · have hl:=hc.len
    have h1:(s7 [33,116,97,103] c.1).length≤72006:=KQ (a:=EY) (b:=c.1) (by decide) (by have:=hc.tag;omega);have h2:=aGm hc.com;have h3:=aGp hc.fld
    have k:=R4 (f:=QK c) (fun i b=>(i,b)) (fun b=>b) (n:=c.2.2.2.1.length) (M:=1000000) (B:=1) (fun i=>[uN (c.2.2.2.1.getD i eD)]) (fun i hi=>by simp) [] (by simp;omega) (fun i b hi hM=>by
      obtain⟨r0,r4⟩:=a7s (aF5 hok hi);unfold QK;dsimp only;rw[if_pos (tO hi),if_pos (sA hi),aFM,aOg (hc.ent _ (NF hi)) r0 r4,aRf,if_pos (by simp;omega),if_pos (tC (by omega))]) (fun b=>by
      unfold QK;dsimp only;rw[if_neg (vI _)])
    rw[hok,if_neg (show¬(!true)=true from by decide),if_pos rfl,aGn hc.com (by simp),aRf,NO (by decide) (by have:=hc.tag;omega) (by simp only[List.nil_append,AX];omega),aRf,aGq hc.fld (by simp only[List.nil_append,aRh,AX];omega),aRf,WK (by simp only[List.nil_append,aRh,AX,aRj,aRs];omega),aRf,k,WA (l:=c.2.2.2.1) (d:=eD) (fun x=>[uN x])];unfold rL;rw[aRf,List.nil_append,List.nil_append,←BN,←BN,←BN,N5,aNH];rfl
  · simp only[aSc] at hok
    rw[hok,if_pos (show (!false)=true from rfl),if_neg (by decide)]
def A5 (c:C4):List UInt8:=zP (wU c) (c.2.2.2.1.map uN) []
theorem aGu (x:UInt8) (u:List UInt8):vF x (u++[x])=u:=by unfold vF;rw[if_pos (by simp)];simp
theorem aGv {d:UInt8}: ∀(a t:List UInt8),(∀b∈a,b≠d/\b≠92)->sE d (a++t)=(sE d t).map (· +a.length)
 |[],t,_=>by simp
 |b::a,t,h=>by
  obtain⟨h1,h2⟩:=h b aRB;rw[List.cons_append,KC h1 h2,aGv a t (fun c hc=>h c (aRt _ hc)),Option.map_map];congr 1
theorem aOh (z:List UInt8):sE 61 (32::61::z)=some 1:=by
 rw[KC (by decide) (by decide),QP rfl];rfl
theorem aGw {a e:List UInt8}(hk: ∀t:List UInt8,sE 61 (a++t)=(sE 61 t).map (· +a.length)):ET ((a++[32,61,32])++e)=some (a,e):=by
 have e0:(a++[32,61,32])++e=a++(32::61::32::e):=by simp
 have e1:a++(32::61::32::e)=(a++[32])++(61::32::e):=by simp
 have e2:a++(32::61::32::e)=(a++[32,61])++(32::e):=by simp
 unfold ET;rw[e0,hk,aOh];show some (vF 32 ((a++(32::61::32::e)).take (1+a.length)),AW 32 ((a++(32::61::32::e)).drop (1+a.length+1)))=_;have h1:(a++(32::61::32::e)).take (1+a.length)=a++[32]:=by rw[e1,List.take_left' (by simp;omega)]
 have h2:(a++(32::61::32::e)).drop (1+a.length+1)=32::e:=by rw[e2,List.drop_left' (by simp;omega)]
 rw[h1,h2,aGu];rfl
theorem WM {v:List UInt8}(h:sD v=true):vP (rV 1 v)=(v,true):=by
 have h1:yG (1:Int) (rV 1 v)=(v,0,0):=aF2 (n:=1) (.inl rfl) v;unfold vP;rw[h1,h];rfl
theorem a7G {b:UInt8}{u:List UInt8}(h:GE b=false):DI ((b::u)++[10])=b::u:=by
 unfold DI;rw[aGu,List.dropWhile_cons,h];rfl
theorem aGx {a' v:List UInt8}(hk: ∀t:List UInt8,sE 61 ((33::a')++t)=(sE 61 t).map (· +(33::a':List UInt8).length)) (hv:sD v=true) (hl:(s7 (33::a') v).length<=4000000000):
  u7 (s7 (33::a') v)=some ((vQ (33::a')).1,(vQ (33::a')).2,v,false):=by
 have hz:s7 (33::a') v=(33::(a'++[32,61,32]++rV 1 v))++[10]:=by
  unfold s7;simp only[List.cons_append]
 have e:((33::a')++[32,61,32])++rV 1 v=33::(a'++[32,61,32]++rV 1 v):=by simp only[List.cons_append]
 have hc:DI (s7 (33::a') v)=33::(a'++[32,61,32]++rV 1 v):=by
  rw[hz];exact a7G rfl
 have hle:(rV 1 v).length<=4000000000:=by
  unfold s7 at hl;simp only[aRh,aRj,aRs] at hl;omega
 have hs:q8 (((33::a')++[32,61,32])++rV 1 v):=by
  unfold q8;unfold s7 at hl;simp only[aRh,aRj,aRs] at hl⊢;omega
 have hS:=a7c hs;rw[aGw hk] at hS;have hN:=aFi (s:=((33::a')++[32,61,32])++rV 1 v) (a:=33::a') (v0:=rV 1 v) hS hle;rw[WM hv,e] at hN;unfold u7;rw[NC (by unfold q8;exact hl),hc,aRf,if_neg (by simp),NB,aRf,IE];rw[if_neg (WE (by decide)),GD,aRf,DH,if_neg (by simp),GD,aRf,DH,if_pos (by simp),hN,aRf];rfl
theorem aGy {a:List UInt8}(h:(a.all fun b=>decide (b≠61)&&decide (b≠92))=true): ∀t:List UInt8,sE 61 (a++t)=(sE 61 t).map (· +a.length):=fun t=>
 aGv a t fun b hb=>by
  have:=aRW.1 h b hb;simpa using this
theorem aOi {x:List UInt8}(h:sU x=true):(([33,58]++x).all fun b=>decide (b≠61)&&decide (b≠92))=true:=by
 have hw:=aF7 h;unfold WG at hw;rw[aRm] at hw;rw[List.all_append];have h2:(x.all fun b=>decide (b≠61)&&decide (b≠92))=true:=by
  rw[aRW];intro b hb;have:=aRW.1 hw.1 b hb;simp only[aRm,aRk];constructor
  ·rintro rfl;revert this;decide
  ·rintro rfl;revert this;decide
 rw[h2];rfl
theorem aOj (x:List UInt8):vQ ([33,58]++x)=(7,x):=by
 unfold vQ;rw[if_neg (by simp),if_neg (by simp),if_neg (by simp),if_neg (by simp),if_pos (by rfl)];rfl
theorem aGz {x:List UInt8}(hx:sD x=true) (hl:(tJ x).length<=4000000000):u7 (tJ x)=some (2,[],x,false):=by
 have hz:tJ x=(35::46::32::rV 1 x)++[10]:=by
  unfold tJ;simp only[List.cons_append,List.nil_append]
 have hc:DI (tJ x)=35::46::32::rV 1 x:=by
  rw[hz];exact a7G rfl
 have hle:(rV 1 x).length<=4000000000:=by
  unfold tJ at hl;simp only[aRh,aRj,aRs] at hl;omega
 have hb2:qC (35::46::32::rV 1 x) 2=((32:UInt8).toNat:Int):=rfl;have hc3:q7 (35::46::32::rV 1 x) 3 ((35::46::32::rV 1 x).length:Int)=rV 1 x:=AU (k:=3);unfold u7;rw[NC (by unfold q8;exact hl),hc,aRf,if_neg (show¬decide ((35::46::32::rV 1 x:List UInt8)=[])=true by simp),NB,aRf,IE,if_pos (by rfl),if_neg (show¬decide ((35::46::32::rV 1 x:List UInt8)=[35,46])=true by simp)];rw[if_pos (show 0<=(2:Int)/\(2:Int)<((35::46::32::rV 1 x).length:Int) by simp only[aRj];omega),hb2,if_neg (by decide),if_pos (show 0<=(3:Int)/\(3:Int)<=((35::46::32::rV 1 x).length:Int)/\((35::46::32::rV 1 x).length:Int)<=((35::46::32::rV 1 x).length:Int) by simp only[aRj];omega),hc3,KH hle,aRf,WM hx];rfl
theorem aOk:u7 [10]=some (0,[],[],false):=by
 unfold u7;rw[NC (by unfold q8;decide),show DI [10]=[] from rfl];rfl
theorem aOl:u7 [37,37,10]=some (8,[],[],false):=by
 unfold u7;rw[NC (by unfold q8;decide),show DI [37,37,10]=[37,37] from rfl,aRf,if_neg (by decide),NB,aRf,IE,if_neg (by decide),GD,aRf,DH,if_neg (by decide),GD,aRf,DH,if_neg (by decide),if_pos (by decide)]
theorem aOm:((List.range 256).all fun b=>match uQ 1 b true with|[]=>false|c::_=> !(decide (c=32)||decide (c=9)||decide (c=35)||decide (c=33)))=true:=by kernel_rfl
theorem aOn (x:List UInt8) (h:x≠[]): ∃c u,rV 1 x=c::u/\c≠32/\c≠9/\c≠35/\c≠33:=by
 cases x with
 |nil=>exact absurd rfl h
 |cons b t=>
  have h1:=aRW.1 aOm b.toNat (aSU.2 (UInt8.toNat_lt _));rw[R5];unfold yZ;cases he:uQ 1 b.toNat true with
  |nil=>rw[he] at h1;cases h1
  |cons c u=>
   rw[he] at h1;simp only[aRK,aSo,aRU] at h1;exact⟨c,u++yZ 1 false t,rfl,h1.1.1.1,h1.1.1.2,h1.1.2,h1.2⟩
theorem aOo {k v:List UInt8}(hk:k≠[]) (hkt:sD k=true) (hv:sD v=true) (hl:(s7 (rV 1 k) v).length<=4000000000):u7 (s7 (rV 1 k) v)=some (9,k,v,false):=by
 obtain⟨c,u,hcu,c1,c2,c3,c4⟩:=aOn k hk;have hkk: ∀t:List UInt8,sE 61 (rV 1 k++t)=(sE 61 t).map (· +(rV 1 k).length):=fun t=>by
  rw[R5];exact a7p (n:=1) (.inl rfl) k true t
 have hs:q8 ((rV 1 k++[32,61,32])++rV 1 v):=by
  unfold q8;unfold s7 at hl;simp only[aRh,aRj,aRs] at hl⊢;omega
 have hle:(rV 1 k).length<=4000000000/\(rV 1 v).length<=4000000000:=by
  unfold q8 at hs;simp only[aRh,aRj,aRs] at hs;omega
 have hS:=a7c hs;rw[aGw hkk] at hS;have hne:rV 1 k≠[]:=by rw[hcu];simp
 have hc:DI (s7 (rV 1 k) v)=(rV 1 k++[32,61,32])++rV 1 v:=by
  unfold s7;rw[hcu];refine a7G (b:=c) (u:=u++[32,61,32]++rV 1 v) ?_;unfold GE;simp [c1,c2]
 unfold u7;rw[NC (by unfold q8;exact hl),hc,aRf,if_neg (show¬decide (((rV 1 k++[32,61,32])++rV 1 v:List UInt8)=[])=true by simp),NB,aRf,IE];have hb: ∀x y:UInt8,c≠x->¬tQ x y ((rV 1 k++[32,61,32])++rV 1 v)=true:=fun x y h=>by
  rw[hcu];exact WE h
 have hh: ∀x:UInt8,c≠x->¬decide (((rV 1 k++[32,61,32])++rV 1 v).head? =some x)=true:=fun x h=>by
  rw[hcu];simp [h]
 rw[if_neg (hb 35 46 c3),GD,aRf,DH,if_neg (hh 35 c3),GD,aRf,DH,if_neg (hh 33 c4)];rw[if_neg (by
  intro h;have:=aRN List.length (aRZ h);simp only[aRh,aRj,aRs] at this;omega),hS,aRf]
 show (if ((!true)||decide (rV 1 k=[]))=true then _ else _)=_
 rw[if_neg (by simp [hne])];show (DC (rV 1 k)).bind _=_;rw[KH hle.1,aRf];show (DC (rV 1 v)).bind _=_;rw[KH hle.2,aRf,WM hkt,WM hv];rfl
theorem CI {l:List UInt8}{ls:List (List UInt8)}{b b':RS}(h:uT l b=some (.inl b')):sL (l::ls) b=sL ls b':=by
 rw[sL,h,aRf]
section
variable {id src tg v k:List UInt8}{cm fl:List (List UInt8)}{st op:Int}{fd:List rH}{hs ht:Bool}
theorem aGA (h:cm.length<20):tG ((id,(src,(tg,(cm,(fl,(st,(fd,()))))))),(hs,(ht,(op,())))) (2,(k,(v,(false,()))))=some (src,cm++[v],fl,st,fd,hs,ht,0):=by
 unfold tG;dsimp only;rw[if_pos (by simp),if_neg (by simp),if_neg (by simp;omega),if_pos (by simp;omega),if_pos (by simp;omega),List.nil_append]
theorem aOp:tG ((id,(src,(tg,(cm,(fl,(st,(fd,()))))))),(false,(ht,(op,())))) (4,(k,(v,(false,()))))=some (v,cm,fl,st,fd,true,ht,0):=by
 unfold tG;dsimp only;rw[if_neg (by simp),if_pos (by simp),if_neg (by simp),if_neg (by simp)]
theorem aOq {n:Int}(h0:0<=n) (h4:n<=4):tG ((id,(src,(tg,(cm,(fl,(st,(fd,()))))))),(hs,(false,(op,())))) (5,(k,(qD .str wN n,(false,()))))=some (src,cm,fl,n,fd,hs,true,0):=by
 unfold tG;dsimp only;rw[if_neg (by simp),if_neg (by simp),if_pos (by simp),VF,if_pos vO,aNO h0 h4];rw[if_neg (by
  show¬(false||decide (n<0))=true
  simp;omega),if_neg (by simp),aRf]
theorem aOr (h:fl.length<20) (hn:sU v=true) (hlt: ∀y∈fl,y<v):tG ((id,(src,(tg,(cm,(fl,(st,(fd,()))))))),(hs,(ht,(op,())))) (6,(k,(v,(false,()))))=some (src,cm,fl++[v],st,fd,hs,ht,0):=by
 have hf:q8 v:=by have:=wS (KP hn);unfold q8;omega
 have hfl:q8 fl:=by unfold q8;omega
 have hnone:(fl.any fun y=>decide (y=v))=false:=by
  rw[aR6];intro y hy;have:=hlt y hy;simp only[aRk];intro he;rw[he] at this;exact List.lt_irrefl _ this
 unfold tG;dsimp only;rw[if_neg (by simp),if_neg (by simp),if_neg (by simp),if_pos (by simp),EK _ hf,if_pos vO,hn];rw[if_neg (show¬(false|| !val (some true))=true from by decide),a7f _ _ hfl,aRf,hnone,if_neg (by simp),if_neg (by simp;omega),a7g hfl,aRf,aNM hlt]
theorem aGB (h:fd.length<20) (hn:sU k=true) (hlt: ∀y∈fd,y.1<k):tG ((id,(src,(tg,(cm,(fl,(st,(fd,()))))))),(hs,(ht,(op,())))) (7,(k,(v,(false,()))))=some (src,cm,fl,st,fd++[(k,(v,()))],hs,ht,0):=by
 have hf:q8 k:=by have:=wS (KP hn);unfold q8;omega
 have hfd:q8 fd:=by unfold q8;omega
 have hnone:(fd.any fun y=>decide (y.1=k))=false:=by
  rw[aR6];intro y hy;have:=hlt y hy;simp only[aRk];intro he;rw[he] at this;exact List.lt_irrefl _ this
 unfold tG;dsimp only;rw[if_neg (by simp),if_neg (by simp),if_neg (by simp),if_neg (by simp),if_pos (by simp),EK _ hf,if_pos vO,hn];rw[if_neg (show¬(false|| !val (some true))=true from by decide),a6K _ _ hfd,aRf,a6J,hnone,if_neg (by simp),if_neg (by simp;omega),a6L _ _ _ hfd,aRf,aNN hlt]
end
abbrev hB (at_ i:Int) (tag:List UInt8) (cm:List (List UInt8)) (fd:List rH):RS:=([],at_,i,tag,[],[],[],[],[],[],cm,[],0,fd,false,false,-1)
section
variable {line:List UInt8}{at_ i:Int}{tag k v:List UInt8}{cm cm':List (List UInt8)}{fd fd':List rH}
theorem aGC {f:Int}(hq:u7 line=some (f,k,v,false)) (hf:f=2\/f=7)
  (hA:tG (([],([],([],(cm,([],(0,(fd,()))))))),(false,(false,(-1,())))) (f,(k,(v,(false,()))))=some ([],cm',[],0,fd',false,false,0)):
  uT line (hB at_ i tag cm fd)=some (.inl (hB (at_+(line.length:Int)) (i+1) tag cm' fd')):=by
 have hr:tT (hB at_ i tag cm fd) (f,k,v,false)=some (0,false,tag,[],[],[],[],[],[],cm',[],0,fd',false,false,-1):=by
  unfold tT;dsimp only;rw[if_pos (by simp)];unfold xG rL;dsimp only;rcases hf with rfl|rfl
  ·rw[if_neg (by simp),aRf,if_neg (by simp),if_pos (by simp),aRf,if_pos (by simp),hA,aRf,aRf]
  ·rw[if_neg (by simp),aRf,if_neg (by simp),if_neg (by simp),aRf,if_pos (by simp),hA,aRf,aRf]
 unfold uT;rw[hq,aRf,hr,aRf];dsimp only;rw[if_neg (by simp),if_neg (by simp)]
theorem aOs (hq:u7 line=some (3,k,v,false)) (ht:vE v=true):uT line (hB at_ i [] cm fd)=some (.inl (hB (at_+(line.length:Int)) (i+1) v cm fd)):=by
 have hf:q8 v:=by have:=wS (a7t ht);unfold q8;omega
 have hr:tT (hB at_ i [] cm fd) (3,k,v,false)=some (0,false,v,[],[],[],[],[],[],cm,[],0,fd,false,false,-1):=by
  unfold tT;dsimp only;rw[if_pos (by simp)];unfold xG rL;dsimp only;rw[if_neg (by simp),aRf,if_neg (by simp),if_neg (by simp),aRf,if_neg (by simp),if_pos (by simp),VC _ hf,if_pos vO,ht];rw[if_neg (show¬(false|| !val (some true))=true from by decide),if_neg (by simp),aRf]
 unfold uT;rw[hq,aRf,hr,aRf];dsimp only;rw[if_neg (by simp),if_neg (by simp)]
abbrev eB (ends:List Int) (at_ i:Int) (tag:List UInt8) (cms:List (List UInt8)) (fds:List rH) (es:List rX) (src:List UInt8) (cm fl:List (List UInt8)) (st:Int) (fd:List rH) (hs ht:Bool) (op:Int):RS:=
 (ends,at_,i,tag,cms,fds,es,[],src,[],cm,fl,st,fd,hs,ht,op)
theorem aOt (hq:u7 line=some (8,k,v,false)) (ht:tag≠[]):uT line (hB at_ i tag cm fd)=some (.inl (eB [at_+(line.length:Int)] (at_+(line.length:Int)) (i+1) tag cm fd [] [] [] [] 0 [] false false (-1))):=by
 have hr:tT (hB at_ i tag cm fd) (8,k,v,false)=some (0,true,tag,cm,fd,[],[],[],[],[],[],0,[],false,false,-1):=by
  unfold tT;dsimp only;rw[if_pos (by simp)];unfold xG rL;dsimp only;rw[if_neg (by simp),aRf,if_neg (by simp),if_neg (by simp),aRf,if_neg (by simp),if_neg (by simp),if_pos (by simp),if_neg (by simpa using ht),aRf]
 unfold uT;rw[hq,aRf,hr,aRf];dsimp only;rw[if_neg (by simp),if_pos rfl,if_pos (by simp)];rfl
end
section
variable {line:List UInt8}{ends:List Int}{at_ i:Int}{tag k v src src':List UInt8}{cms cm cm' fl fl':List (List UInt8)}{fds fd fd':List rH}{es:List rX}{st st' op:Int}{hs ht hs' ht':Bool}
theorem RA {f:Int}(hne:ends≠[]) (hq:u7 line=some (f,k,v,false)) (hf:f=2\/f=4\/f=5\/f=6\/f=7)
  (hA:tG (([],(src,([],(cm,(fl,(st,(fd,()))))))),(hs,(ht,(op,())))) (f,(k,(v,(false,()))))=some (src',cm',fl',st',fd',hs',ht',0)):
  ∃op',uT line (eB ends at_ i tag cms fds es src cm fl st fd hs ht op)=some (.inl (eB ends (at_+(line.length:Int)) (i+1) tag cms fds es src' cm' fl' st' fd' hs' ht' op')):=by
 have h9: ¬decide (f=9)=true:=by rcases hf with rfl|rfl|rfl|rfl|rfl<;>decide
 have hm:(((decide ((2:Int)<=f))&&(decide (f<=(7:Int))))&&(!decide (f=(3:Int))))=true:=by rcases hf with rfl|rfl|rfl|rfl|rfl<;>decide
 have hr: ∃op',tT (eB ends at_ i tag cms fds es src cm fl st fd hs ht op) (f,k,v,false)=some (0,false,tag,cms,fds,es,[],src',[],cm',fl',st',fd',hs',ht',op'):=by
  unfold tT;dsimp only;rw[if_neg (by simp [hne]),if_neg h9,if_pos hm,hA,aRf];by_cases hop:decide (op<0)=true
  ·rw[if_pos hop];exact⟨_,rfl⟩
  ·rw[if_neg hop];exact⟨_,rfl⟩
 obtain⟨op',hr⟩:=hr;refine⟨op',?_⟩;unfold uT;rw[hq,aRf,hr,aRf];dsimp only;rw[if_neg (by simp),if_neg (by simp)]
theorem aOu (hne:ends≠[]) (hq:u7 line=some (0,k,v,false)):uT line (eB ends at_ i tag cms fds es src cm fl st fd hs ht op)=some (.inl (eB ends (at_+(line.length:Int)) (i+1) tag cms fds es src cm fl st fd hs ht op)):=by
 have hr:tT (eB ends at_ i tag cms fds es src cm fl st fd hs ht op) (0,k,v,false)=some (0,false,tag,cms,fds,es,[],src,[],cm,fl,st,fd,hs,ht,op):=by
  unfold tT;dsimp only;rw[if_neg (by simp [hne]),if_neg (by simp),if_neg (by simp),if_neg (by simp)]
 unfold uT;rw[hq,aRf,hr,aRf];dsimp only;rw[if_neg (by simp),if_neg (by simp)]
theorem aGD (hne:ends≠[]) (hq:u7 line=some (9,k,v,false)) (hk:EQ k=true) (hes:es.length<1000) (hen:ends.length<=5000) (hnew:(es.any fun y=>decide (y.1=k))=false):
  uT line (eB ends at_ i tag cms fds es src cm fl st fd hs ht op)=some (.inl (eB (ends++[at_+(line.length:Int)]) (at_+(line.length:Int)) (i+1) tag cms fds (es++[(k,(src,(v,(cm,(fl,(st,(fd,())))))))]) [] [] [] 0 [] false false (-1))):=by
 have hk': ¬((false||(decide (k=([]:List UInt8))))||(decide ((200:Int)<(k.length:Int))))=true:=by
  unfold EQ at hk;simp only[aRm,aRK,aRU,aRk] at hk;simp [hk.1];omega
 have hcl:E9 (tag,(cms,(fds,(es,())))) (([],(src,([],(cm,(fl,(st,(fd,()))))))),(hs,(ht,(op,())))) (9,(k,(v,(false,()))))=some (es++[(k,(src,(v,(cm,(fl,(st,(fd,())))))))],0):=by
  unfold E9;dsimp only;rw[if_neg hk',VS _ _ (show es.length<=5000 by omega),aRf,a61];rw[if_neg (fun hh=>aRV (hnew.symm.trans hh)),if_neg (show¬decide ((1000:Int)<=(es.length:Int))=true from by simp;omega),if_pos (by simp;omega),if_pos (by simp;omega),List.nil_append]
 have hr:tT (eB ends at_ i tag cms fds es src cm fl st fd hs ht op) (9,k,v,false)=some (0,true,tag,cms,fds,es++[(k,(src,(v,(cm,(fl,(st,(fd,())))))))],[],[],[],[],[],0,[],false,false,-1):=by
  unfold tT;dsimp only;rw[if_neg (by simp [hne]),if_pos (by simp),hcl,aRf]
 unfold uT;rw[hq,aRf,hr,aRf];dsimp only;rw[if_neg (by simp),if_pos rfl,if_pos (by omega)]
end
theorem NP {α:Type}(f:α->List UInt8) (st:Int->Int->Int->List α->RS) (rest:List (List UInt8)) (ok:List α->α->Prop)
  (hstep: ∀at_ i op acc x,ok acc x->∃op',uT (f x) (st at_ i op acc)=some (.inl (st (at_+((f x).length:Int)) (i+1) op' (acc++[x])))):
  ∀(l acc:List α) (at_ i op:Int),(∀p x q,l=p++x::q->ok (acc++p) x)->∃i' op',sL (l.map f++rest) (st at_ i op acc)=sL rest (st (at_+(((l.map f).flatten.length:Nat):Int)) i' op' (acc++l))
 |[],acc,at_,i,op,_=>⟨i,op,by simp⟩
 |x::l,acc,at_,i,op,h=>by
  have h0:=h [] x l rfl;rw[List.append_nil] at h0;obtain⟨op1,h1⟩:=hstep at_ i op acc x h0;obtain⟨i2,op2,h2⟩:=NP f st rest ok hstep l (acc++[x]) (at_+((f x).length:Int)) (i+1) op1 (fun p y q e=>by
   rw[aRo];exact h (x::p) y q (by rw[e];rfl))
  refine⟨i2,op2,?_⟩;rw[aR2,List.cons_append,CI h1,h2,aRo,aR4];congr 2;rw[aRS,aRh];omega
theorem a7H {a v:List UInt8}(ha:a.length<=1000000) (hv:sD v=true):(s7 a v).length<=4000000000:=by
 have h1:=GJ (n:=1) (.inl rfl) v;have h2:=wS hv;unfold s7;simp only[aRh,aRj,aRs];omega
theorem aGE {v:List UInt8}(hv:sD v=true):(tJ v).length<=4000000000:=by
 have h1:=GJ (n:=1) (.inl rfl) v;have h2:=wS hv;unfold tJ;simp only[aRh,aRj,aRs];omega
theorem aGF {l:List (List UInt8)}(h:vY l=true): ∀p x q,l=p++x::q->p.length<20/\sD x=true:=by
 obtain⟨h1,h2⟩:=NM h;rintro p x q rfl;refine⟨?_,h2 x (by simp)⟩;simp only[aRh,aRj] at h1;omega
theorem aOv {l:List (List UInt8)}(h:A4 l=true): ∀p x q,l=p++x::q->p.length<20/\sU x=true/\∀y∈p,y<x:=by
 obtain⟨h1,h2,h3⟩:=WH h;rintro p x q rfl;refine⟨?_,h2 x (by simp),fun y hy=>(aSA.1 h3).2.2 y hy x aRB⟩;simp only[aRh,aRj] at h1;omega
theorem aGG {l:List rH}(h:vR l=true): ∀p x q,l=p++x::q->p.length<20/\(sU x.1=true/\sD x.2.1=true)/\∀y∈p,y.1<x.1:=by
 obtain⟨h1,h2,h3⟩:=GK h;rintro p x q rfl;refine⟨?_,⟨(h2 x (by simp)).1,(h2 x (by simp)).2.2⟩,fun y hy=>(aSA.1 h3).2.2 y hy x aRB⟩;simp only[aRh,aRj] at h1;omega
theorem aGH {x:rH}(hn:sU x.1=true) (hv:sD x.2.1=true):u7 (uU x)=some (7,x.1,x.2.1,false):=by
 have h:=aGx (a':=58::x.1) (v:=x.2.1) (aGy (aOi hn)) hv (a7H (by have:=wS (KP hn);simp only[aRj];omega) hv);have hb:vQ (33::58::x.1)=(7,x.1):=aOj x.1;rw[hb] at h;exact h
theorem WN {a' v:List UInt8}{n:Int}(hp:((33::a':List UInt8).all fun b=>decide (b≠61)&&decide (b≠92))=true) (hb:vQ (33::a')=(n,[])) (hl:a'.length<=1000) (hv:sD v=true):u7 (s7 (33::a') v)=some (n,[],v,false):=by
 have h:=aGx (aGy hp) hv (a7H (by simp only[aRj];omega) hv);rw[hb] at h;exact h
section
variable {tag:List UInt8}{rest:List (List UInt8)}
theorem aOw {l:List (List UInt8)}(h:vY l=true) (at_ i:Int): ∃i',sL (l.map tJ++rest) (hB at_ i tag [] [])=sL rest (hB (at_+(((l.map tJ).flatten.length:Nat):Int)) i' tag l []):=by
 obtain⟨i',_,e⟩:=NP tJ (fun a i _ acc=>hB a i tag acc []) rest (fun acc x=>acc.length<20/\sD x=true) (fun a i op acc x hx=>⟨0,aGC (aGz hx.2 (aGE hx.2)) (.inl rfl) (aGA hx.1)⟩) l [] at_ i 0 (by simpa using aGF h);exact⟨i',by simpa using e⟩
theorem aOx {l:List rH}{cm:List (List UInt8)}(h:vR l=true) (at_ i:Int): ∃i',sL (l.map uU++rest) (hB at_ i tag cm [])=sL rest (hB (at_+(((l.map uU).flatten.length:Nat):Int)) i' tag cm l):=by
 obtain⟨i',_,e⟩:=NP uU (fun a i _ acc=>hB a i tag cm acc) rest (fun acc x=>acc.length<20/\(sU x.1=true/\sD x.2.1=true)/\∀y∈acc,y.1<x.1) (fun a i op acc x hx=>⟨0,aGC (aGH hx.2.1.1 hx.2.1.2) (.inr rfl) (aGB hx.1 hx.2.1.1 hx.2.2)⟩) l [] at_ i 0 (by simpa using aGG h);exact⟨i',by simpa using e⟩
end
def DJ (c:C4):List (List UInt8):=c.2.1.map tJ++(s7 EY c.1::(c.2.2.1.map uU++[[37,37,10]]))
theorem WO (c:C4):(DJ c).flatten=wU c:=by
 unfold DJ wU EX GN;simp only[List.flatten_append,aRS,List.flatten_nil,List.append_nil,List.flatMap_def,aRo]
theorem aGI {c:C4}{rest:List (List UInt8)}(ht:vE c.1=true) (hc:vY c.2.1=true) (hf:vR c.2.2.1=true):
  ∃i',sL (DJ c++rest) BQ=sL rest (eB [((wU c).length:Int)] ((wU c).length:Int) i' c.1 c.2.1 c.2.2.1 [] [] [] [] 0 [] false false (-1)):=by
 have hl:(wU c).length=(c.2.1.map tJ).flatten.length+((s7 EY c.1).length+((c.2.2.1.map uU).flatten.length+3)):=by
  rw[<-WO];unfold DJ;simp only[List.flatten_append,aRS,List.flatten_nil,aRh,aRj,aRs]
 have e:DJ c++rest=c.2.1.map tJ++(s7 EY c.1::(c.2.2.1.map uU++([37,37,10]::rest))):=by
  unfold DJ;simp only[aRo,List.cons_append,List.nil_append]
 obtain⟨i1,e1⟩:=aOw (tag:=[]) (rest:=s7 EY c.1::(c.2.2.1.map uU++([37,37,10]::rest))) hc 0 0;have s1:=aOs (at_:=0+(((c.2.1.map tJ).flatten.length:Nat):Int)) (i:=i1) (cm:=c.2.1) (fd:=[]) (WN (a':=[116,97,103]) (by decide) (by decide) (by decide) (a7t ht)) ht;obtain⟨i2,e2⟩:=aOx (tag:=c.1) (cm:=c.2.1) (rest:=[37,37,10]::rest) hf (0+(((c.2.1.map tJ).flatten.length:Nat):Int)+(((s7 EY c.1).length:Nat):Int)) (i1+1);have s2:=aOt (at_:=0+(((c.2.1.map tJ).flatten.length:Nat):Int)+(((s7 EY c.1).length:Nat):Int)+(((c.2.2.1.map uU).flatten.length:Nat):Int)) (i:=i2) (cm:=c.2.1) (fd:=c.2.2.1) aOl (aFx ht);refine⟨i2+1,?_⟩;rw[e,show BQ=hB 0 0 [] [] [] from rfl,e1,CI s1,e2,CI s2];have e3:(0:Int)+(((c.2.1.map tJ).flatten.length:Nat):Int)+(((s7 EY c.1).length:Nat):Int)+(((c.2.2.1.map uU).flatten.length:Nat):Int)+((([37,37,10]:List UInt8).length:Nat):Int)=((wU c).length:Int):=by
  rw[hl];simp only[aRj,aRs];omega
 rw[e3]
section
variable {tag src:List UInt8}{rest:List (List UInt8)}{ends:List Int}{cms cm fl:List (List UInt8)}{fds fd:List rH}{es:List rX}{st op:Int}{hs ht:Bool}(hne:ends≠[])
include hne
theorem aOy {l:List (List UInt8)}(h:vY l=true) (at_ i op:Int): ∃i' op',sL (l.map tJ++rest) (eB ends at_ i tag cms fds es src [] fl st fd hs ht op)=sL rest (eB ends (at_+(((l.map tJ).flatten.length:Nat):Int)) i' tag cms fds es src l fl st fd hs ht op'):=by
 obtain⟨i',op',e⟩:=NP tJ (fun a i o acc=>eB ends a i tag cms fds es src acc fl st fd hs ht o) rest (fun acc x=>acc.length<20/\sD x=true) (fun a i o acc x hx=>RA hne (aGz hx.2 (aGE hx.2)) (.inl rfl) (aGA hx.1)) l [] at_ i op (by simpa using aGF h);exact⟨i',op',by simpa using e⟩
theorem aOz {l:List (List UInt8)}(h:A4 l=true) (at_ i op:Int): ∃i' op',sL (l.map (s7 yI)++rest) (eB ends at_ i tag cms fds es src cm [] st fd hs ht op)=sL rest (eB ends (at_+(((l.map (s7 yI)).flatten.length:Nat):Int)) i' tag cms fds es src cm l st fd hs ht op'):=by
 obtain⟨i',op',e⟩:=NP (s7 yI) (fun a i o acc=>eB ends a i tag cms fds es src cm acc st fd hs ht o) rest (fun acc x=>acc.length<20/\sU x=true/\∀y∈acc,y<x) (fun a i o acc x hx=>RA hne (WN (a':=[102,108,97,103]) (by decide) (by decide) (by decide) (KP hx.2.1)) (.inr (.inr (.inr (.inl rfl)))) (aOr hx.1 hx.2.1 hx.2.2)) l [] at_ i op (by simpa using aOv h);exact⟨i',op',by simpa using e⟩
theorem aOA {l:List rH}(h:vR l=true) (at_ i op:Int): ∃i' op',sL (l.map uU++rest) (eB ends at_ i tag cms fds es src cm fl st [] hs ht op)=sL rest (eB ends (at_+(((l.map uU).flatten.length:Nat):Int)) i' tag cms fds es src cm fl st l hs ht op'):=by
 obtain⟨i',op',e⟩:=NP uU (fun a i o acc=>eB ends a i tag cms fds es src cm fl st acc hs ht o) rest (fun acc x=>acc.length<20/\(sU x.1=true/\sD x.2.1=true)/\∀y∈acc,y.1<x.1) (fun a i o acc x hx=>RA hne (aGH hx.2.1.1 hx.2.1.2) (.inr (.inr (.inr (.inr rfl)))) (aGB hx.1 hx.2.1.1 hx.2.2)) l [] at_ i op (by simpa using aGG h);exact⟨i',op',by simpa using e⟩
def AY (x:List UInt8):List (List UInt8):=if x=[] then[] else[s7 R7 x]
def AZ (n:Int):List (List UInt8):=if n=0 then[] else[s7 R9 (qD .str wN n)]
theorem aOB {x:List UInt8}(h:sD x=true) (at_ i op:Int): ∃i' op' hs',sL (AY x++rest) (eB ends at_ i tag cms fds es [] cm fl st fd false ht op)=sL rest (eB ends (at_+(((AY x).flatten.length:Nat):Int)) i' tag cms fds es x cm fl st fd hs' ht op'):=by
 unfold AY;by_cases hx:x=[]
 ·subst hx;exact⟨i,op,false,by simp⟩
 ·rw[if_neg hx];obtain⟨op',hst⟩:=RA (at_:=at_) (i:=i) (tag:=tag) (cms:=cms) (fds:=fds) (es:=es) hne (WN (a':=[115,111,117,114,99,101]) (by decide) (by decide) (by decide) h) (.inr (.inl rfl)) (aOp (src:=[]) (cm:=cm) (fl:=fl) (st:=st) (fd:=fd) (ht:=ht) (op:=op) (v:=x));exact⟨i+1,op',true,by rw[aR4,CI hst];simp⟩
theorem aOC {n:Int}(h0:0<=n) (h4:n<=4):sD (qD .str wN n)=true:=by
 have:n=0\/n=1\/n=2\/n=3\/n=4:=by omega
 rcases this with rfl|rfl|rfl|rfl|rfl<;>exact KP (by decide)
theorem aOD {n:Int}(h0:0<=n) (h4:n<=4) (at_ i op:Int): ∃i' op' ht',sL (AZ n++rest) (eB ends at_ i tag cms fds es src cm fl 0 fd hs false op)=sL rest (eB ends (at_+(((AZ n).flatten.length:Nat):Int)) i' tag cms fds es src cm fl n fd hs ht' op'):=by
 unfold AZ;by_cases hx:n=0
 ·subst hx;exact⟨i,op,false,by simp⟩
 ·rw[if_neg hx];obtain⟨op',hst⟩:=RA (at_:=at_) (i:=i) (tag:=tag) (cms:=cms) (fds:=fds) (es:=es) hne (WN (a':=[115,116,97,116,101]) (by decide) (by decide) (by decide) (aOC hne h0 h4)) (.inr (.inr (.inl rfl))) (aOq (src:=src) (cm:=cm) (fl:=fl) (st:=0) (fd:=fd) (hs:=hs) (op:=op) h0 h4);exact⟨i+1,op',true,by rw[aR4,CI hst];simp⟩
end
def CJ (x:rX):List (List UInt8):=[10]::(x.2.2.2.1.map tJ++(AY x.2.1++(AZ x.2.2.2.2.2.1++(x.2.2.2.2.1.map (s7 yI)++(x.2.2.2.2.2.2.1.map uU++[s7 (rV 1 x.1) x.2.2.1])))))
theorem aGJ (x:rX):(CJ x).flatten=uN x:=by
 unfold CJ uN KS GP GO EX KR GN AY AZ;simp only[aRS,List.flatten_append,List.flatten_nil,List.append_nil,List.flatMap_def,aRo];congr 3
 ·split<;>simp
 ·congr 1;split<;>simp
theorem aOE {x:rX}{tag:List UInt8}{rest:List (List UInt8)}{ends:List Int}{cms:List (List UInt8)}{fds:List rH}{es:List rX}(hne:ends≠[]) (h:wF x=true) (hes:es.length<1000) (hen:ends.length<=5000) (hnew:(es.any fun y=>decide (y.1=x.1))=false) (a:Nat) (i:Int):
  ∃i',sL (CJ x++rest) (eB ends (a:Int) i tag cms fds es [] [] [] 0 [] false false (-1))=sL rest (eB (ends++[((a+(uN x).length:Nat):Int)]) ((a+(uN x).length:Nat):Int) i' tag cms fds (es++[x]) [] [] [] 0 [] false false (-1)):=by
 have h':=h;unfold wF at h';simp only[aRm] at h';obtain⟨⟨⟨⟨⟨⟨⟨⟨hid,h200⟩,hidt⟩,hsrc⟩,htgt⟩,hcom⟩,hflg⟩,_⟩,hfld⟩:=h';obtain⟨r0,r4⟩:=a7s h;have hidk:EQ x.1=true:=by unfold EQ;rw[hid,h200];rfl
 have hidn:x.1≠[]:=by simpa using hid
 have hl:(uN x).length=1+((x.2.2.2.1.map tJ).flatten.length+((AY x.2.1).flatten.length+((AZ x.2.2.2.2.2.1).flatten.length+((x.2.2.2.2.1.map (s7 yI)).flatten.length+((x.2.2.2.2.2.2.1.map uU).flatten.length+(s7 (rV 1 x.1) x.2.2.1).length))))):=by
  rw[<-aGJ];unfold CJ;simp only[List.flatten_append,aRS,List.flatten_nil,aRh,aRj,aRs];omega
 have e:CJ x++rest=[10]::(x.2.2.2.1.map tJ++(AY x.2.1++(AZ x.2.2.2.2.2.1++(x.2.2.2.2.1.map (s7 yI)++(x.2.2.2.2.2.2.1.map uU++(s7 (rV 1 x.1) x.2.2.1::rest)))))):=by
  unfold CJ;simp only[aRo,List.cons_append,List.nil_append]
 have s0:=aOu (at_:=(a:Int)) (i:=i) (tag:=tag) (cms:=cms) (fds:=fds) (es:=es) (src:=[]) (cm:=[]) (fl:=[]) (st:=0) (fd:=[]) (hs:=false) (ht:=false) (op:= -1) hne aOk;obtain⟨i1,o1,e1⟩:=aOy (tag:=tag) (cms:=cms) (fds:=fds) (es:=es) (src:=[]) (fl:=[]) (st:=0) (fd:=[]) (hs:=false) (ht:=false) (rest:=AY x.2.1++(AZ x.2.2.2.2.2.1++(x.2.2.2.2.1.map (s7 yI)++(x.2.2.2.2.2.2.1.map uU++(s7 (rV 1 x.1) x.2.2.1::rest))))) hne hcom ((a:Int)+((([10]:List UInt8).length:Nat):Int)) (i+1) (-1);obtain⟨i2,o2,h2,e2⟩:=aOB (tag:=tag) (cms:=cms) (fds:=fds) (es:=es) (cm:=x.2.2.2.1) (fl:=[]) (st:=0) (fd:=[]) (ht:=false) (rest:=AZ x.2.2.2.2.2.1++(x.2.2.2.2.1.map (s7 yI)++(x.2.2.2.2.2.2.1.map uU++(s7 (rV 1 x.1) x.2.2.1::rest)))) hne hsrc ((a:Int)+((([10]:List UInt8).length:Nat):Int)+(((x.2.2.2.1.map tJ).flatten.length:Nat):Int)) i1 o1;obtain⟨i3,o3,h3,e3⟩:=aOD (tag:=tag) (cms:=cms) (fds:=fds) (es:=es) (src:=x.2.1) (cm:=x.2.2.2.1) (fl:=[]) (fd:=[]) (hs:=h2) (rest:=x.2.2.2.2.1.map (s7 yI)++(x.2.2.2.2.2.2.1.map uU++(s7 (rV 1 x.1) x.2.2.1::rest))) hne r0 r4 ((a:Int)+((([10]:List UInt8).length:Nat):Int)+(((x.2.2.2.1.map tJ).flatten.length:Nat):Int)+(((AY x.2.1).flatten.length:Nat):Int)) i2 o2;obtain⟨i4,o4,e4⟩:=aOz (tag:=tag) (cms:=cms) (fds:=fds) (es:=es) (src:=x.2.1) (cm:=x.2.2.2.1) (st:=x.2.2.2.2.2.1) (fd:=[]) (hs:=h2) (ht:=h3) (rest:=x.2.2.2.2.2.2.1.map uU++(s7 (rV 1 x.1) x.2.2.1::rest)) hne hflg ((a:Int)+((([10]:List UInt8).length:Nat):Int)+(((x.2.2.2.1.map tJ).flatten.length:Nat):Int)+(((AY x.2.1).flatten.length:Nat):Int)+(((AZ x.2.2.2.2.2.1).flatten.length:Nat):Int)) i3 o3;obtain⟨i5,o5,e5⟩:=aOA (tag:=tag) (cms:=cms) (fds:=fds) (es:=es) (src:=x.2.1) (cm:=x.2.2.2.1) (fl:=x.2.2.2.2.1) (st:=x.2.2.2.2.2.1) (hs:=h2) (ht:=h3) (rest:=s7 (rV 1 x.1) x.2.2.1::rest) hne hfld ((a:Int)+((([10]:List UInt8).length:Nat):Int)+(((x.2.2.2.1.map tJ).flatten.length:Nat):Int)+(((AY x.2.1).flatten.length:Nat):Int)+(((AZ x.2.2.2.2.2.1).flatten.length:Nat):Int)+(((x.2.2.2.2.1.map (s7 yI)).flatten.length:Nat):Int)) i4 o4;have hll:(s7 (rV 1 x.1) x.2.2.1).length<=4000000000:=a7H (by have h1:=GJ (n:=1) (.inl rfl) x.1;have h2:=wS hidt;omega) htgt;have s6:=aGD (at_:=(a:Int)+((([10]:List UInt8).length:Nat):Int)+(((x.2.2.2.1.map tJ).flatten.length:Nat):Int)+(((AY x.2.1).flatten.length:Nat):Int)+(((AZ x.2.2.2.2.2.1).flatten.length:Nat):Int)+(((x.2.2.2.2.1.map (s7 yI)).flatten.length:Nat):Int)+(((x.2.2.2.2.2.2.1.map uU).flatten.length:Nat):Int)) (i:=i5) (tag:=tag) (cms:=cms) (fds:=fds) (src:=x.2.1) (cm:=x.2.2.2.1) (fl:=x.2.2.2.2.1) (st:=x.2.2.2.2.2.1) (fd:=x.2.2.2.2.2.2.1) (hs:=h2) (ht:=h3) (op:=o5) hne (aOo hidn hidt htgt hll) hidk hes hen hnew;refine⟨i5+1,?_⟩;rw[e,CI s0,e1,e2,e3,e4,e5,CI s6];have e7:(a:Int)+((([10]:List UInt8).length:Nat):Int)+(((x.2.2.2.1.map tJ).flatten.length:Nat):Int)+(((AY x.2.1).flatten.length:Nat):Int)+(((AZ x.2.2.2.2.2.1).flatten.length:Nat):Int)+(((x.2.2.2.2.1.map (s7 yI)).flatten.length:Nat):Int)+(((x.2.2.2.2.2.2.1.map uU).flatten.length:Nat):Int)+(((s7 (rV 1 x.1) x.2.2.1).length:Nat):Int)=((a+(uN x).length:Nat):Int):=by
  rw[hl];simp only[aRj,aRs];omega
 rw[e7]
theorem aGK {tag:List UInt8}{cms:List (List UInt8)}{fds:List rH}: ∀(l es:List rX) (ends:List Int) (a:Nat) (i:Int),ends≠[]->(∀x∈l,wF x=true)->(es++l).Pairwise (fun a b=>a.1≠b.1)->es.length+l.length<=1000->ends.length<=es.length+1->
  ∃i' at',sL ((l.map CJ).flatten) (eB ends (a:Int) i tag cms fds es [] [] [] 0 [] false false (-1))=sL [] (eB (ends++(wT a (l.map uN)).map fun n:Nat=>(n:Int)) at' i' tag cms fds (es++l) [] [] [] 0 [] false false (-1))
 |[],es,ends,a,i,_,_,_,_,_=>⟨i,a,by simp [wT]⟩
 |x::l,es,ends,a,i,hne,hok,hp,hl,hle=>by
  rw[aRj] at hl;have hnew:(es.any fun y=>decide (y.1=x.1))=false:=by
   rw[aR6];intro y hy;simpa using(aSA.1 hp).2.2 y hy x aRB
  obtain⟨i1,e1⟩:=aOE (tag:=tag) (cms:=cms) (fds:=fds) (rest:=(l.map CJ).flatten) hne (hok x aRB) (by omega) (by omega) hnew a i;obtain⟨i2,a2,e2⟩:=aGK l (es++[x]) (ends++[((a+(uN x).length:Nat):Int)]) (a+(uN x).length) i1 (by simp) (fun y hy=>hok y (aRt _ hy)) (by rw[aRo,aR4];exact hp) (by rw[aRh,aR5];omega) (by simp only[aRh,aR5];omega);refine⟨i2,a2,?_⟩;rw[aR2,aRS,e1,e2,aRo,aRo,aR4,aR2,wT,aR2];rfl
theorem aOF:((List.range 256).all fun b=>[true,false].all fun f=>(uQ 1 b f).all fun c=>decide (c≠10))=true:=by kernel_rfl
theorem aGL: ∀(s:List UInt8) (f:Bool),(10:UInt8)∉yZ 1 f s
  |[],f=>by simp [yZ]
  | b::u,f=>by
    have h1:=aRW.1 aOF b.toNat (aSU.2 (UInt8.toNat_lt _));have h2:=aRW.1 h1 f (by cases f<;>simp)
    unfold yZ;rw[aRO,not_or];refine⟨fun hm=> ?_,aGL u false⟩;have:=aRW.1 h2 10 hm;exact absurd this (by decide)
theorem a7I (s:List UInt8):(10:UInt8)∉rV 1 s:=by rw[R5];exact aGL s true
theorem aGM (x:List UInt8):CH (tJ x):=by
  refine⟨[35,46,32]++rV 1 x,?_,rfl⟩;rw[aRO,not_or];exact⟨by decide,a7I x⟩
theorem NQ {a:List UInt8}(b:List UInt8) (ha:(10:UInt8)∉a):CH (s7 a b):=by
  refine⟨(a++[32,61,32])++rV 1 b,?_,rfl⟩;rw[aRO,not_or,aRO,not_or];exact⟨⟨ha,by decide⟩,a7I b⟩
theorem aOG {x:List UInt8}(h:sU x=true):(10:UInt8)∉x:=by
  have hw:=aF7 h;unfold WG at hw;rw[aRm] at hw;intro hm;have:=aRW.1 hw.1 10 hm;revert this;decide
theorem aGN {x:rH}(h:sU x.1=true):CH (uU x):=by
  refine NQ x.2.1 ?_;rw[aRO,not_or];exact⟨by decide,aOG h⟩
theorem RB {α:Type}{f:α→List UInt8}{l:List α}(h: ∀x∈l,CH (f x)): ∀y∈l.map f,CH y:=by
  intro y hy;obtain⟨x,hx,rfl⟩:=List.mem_map.1 hy;exact h x hx
theorem aGO {u:List UInt8}(h:(10:UInt8)∉u):CH (u++[10]):=⟨u,h,rfl⟩
theorem a7J {c:C4}(hf:vR c.2.2.1=true): ∀y∈DJ c,CH y:=by
  intro y hy;unfold DJ at hy;obtain⟨_,h2,_⟩:=GK hf;rcases aRO.1 hy with hy|hy
  ·exact RB (fun x _=>aGM x) y hy
  · rcases aRv.1 hy with rfl|hy
    ·exact NQ _ (by decide)
    · rcases aRO.1 hy with hy|hy
      ·exact RB (fun x hx=>aGN (h2 x hx).1) y hy
      · rw[aRr.1 hy]
        exact aGO (u:=[37,37]) (by decide)
theorem aGP {x:rX}(h:wF x=true): ∀y∈CJ x,CH y:=by
  have h':=h;unfold wF at h';simp only[aRm] at h';obtain⟨_,h2,_⟩:=GK h'.2;intro y hy;unfold CJ at hy;rcases aRv.1 hy with rfl|hy
  ·exact aGO (u:=[]) (by decide)
  · rcases aRO.1 hy with hy|hy
    ·exact RB (fun x _=>aGM x) y hy
    · rcases aRO.1 hy with hy|hy
      · unfold AY at hy
        split at hy
        ·cases hy
        ·rw[aRr.1 hy];exact NQ _ (by decide)
      · rcases aRO.1 hy with hy|hy
        · unfold AZ at hy
          split at hy
          ·cases hy
          ·rw[aRr.1 hy];exact NQ _ (by decide)
        · rcases aRO.1 hy with hy|hy
          ·exact RB (fun x _=>NQ x (by decide)) y hy
          · rcases aRO.1 hy with hy|hy
            ·exact RB (fun x hx=>aGN (h2 x hx).1) y hy
            ·rw[aRr.1 hy];exact NQ _ (a7I _)
theorem a7K {s:List UInt8}(h:s.length≤4000):(rV 1 s).length≤24000:=by
  have:=GJ (n:=1) (.inl rfl) s;omega
theorem aGQ {l:List (List UInt8)}(h:l.length≤20∧∀y∈l,y.length≤4000):(EX l).length≤480080:=by
  have:=KN (l:=l) (h:=tJ) (B:=24004) fun x hx=>by
    have:=a7K (h.2 x hx);unfold tJ;simp only[aRh,aRj,aRs];omega
  unfold EX;omega
theorem NR {a b:List UInt8}(hb:b.length≤4000):(s7 a b).length≤a.length+24004:=by
  have:=a7K hb;unfold s7;simp only[aRh,aRj,aRs];omega
theorem aGR {l:List rH}(h:l.length≤20∧∀y∈l,y.1.length≤4000∧y.2.1.length≤4000):(GN l).length≤560120:=by
  have:=KN (l:=l) (h:=uU) (B:=28006) fun x hx=>by
    have h1:=NR (a:=[33,58]++x.1) (h.2 x hx).2;have h2:=(h.2 x hx).1;unfold uU;simp only[aRh,aRj,aRs] at h1;omega
  unfold GN;omega
theorem aOH {l:List (List UInt8)}(h:l.length≤20∧∀y∈l,y.length≤4000):(KR l).length≤480200:=by
  have:=KN (l:=l) (h:=s7 yI) (B:=24010) fun x hx=>by
    have h1:=NR (a:=yI) (h.2 x hx);simp only[aRj,aRs] at h1;omega
  unfold KR;omega
theorem a7L {x:rX}(h:wF x=true):(uN x).length≤1700000:=by
  have hs:=a7x h;obtain⟨r0,r4⟩:=a7s h;have a1:=a7K hs.id;have a2:=aGQ hs.com;have a3:=NR (a:=R7) hs.src;have a5:=NR (a:=R9) (b:=qD .str wN x.2.2.2.2.2.1) (by have:=a7r r0 r4;omega);have a6:=aOH hs.flg;have a7:=aGR hs.fld;have a8:=NR (a:=rV 1 x.1) hs.tgt;simp only[aRj,aRs] at a3 a5
  have b3:(if x.2.1=[] then[] else s7 R7 x.2.1).length≤24100:=by
    split
    ·simp
    ·omega
  have b5:(if x.2.2.2.2.2.1=0 then[] else s7 R9 (qD .str wN x.2.2.2.2.2.1)).length≤24100:=by
    split
    ·simp
    ·omega
  unfold uN KS GP GO;simp only[aRh,aRj,aRs];omega
theorem a7M {c:C4}(h:vS c=true):(wU c).length≤1500000:=by
  obtain⟨h1,h2,h3,_⟩:=EW h;obtain⟨c1,c2⟩:=NM h2;obtain⟨g1,g2,g3⟩:=GK h3;have a1:=NR (a:=EY) (wS (a7t h1));have a2:=aGQ ⟨c1,fun y hy=>wS (c2 y hy)⟩;have a3:=aGR ⟨g1,fun y hy=>⟨wS (g2 y hy).2.1,wS (g2 y hy).2.2⟩⟩;simp only[aRj,aRs] at a1;unfold wU;simp only[aRh,aRj,aRs];omega
theorem a7N {c:C4}(h:vS c=true):(A5 c).length≤4000000000:=by
  obtain⟨_,_,_,h4,h5,_⟩:=EW h;have a1:=a7M h;have a2:=KN (l:=c.2.2.2.1) (h:=uN) (B:=1700000) fun x hx=>a7L (h5 x hx);have e:(c.2.2.2.1.map uN).flatten=c.2.2.2.1.flatMap uN:=by rw[List.flatMap_def]
  unfold A5 zP;rw[e];simp only[aRh,aRs];omega
def KT (c:C4):List (List UInt8):=DJ c++(c.2.2.2.1.map CJ).flatten
theorem aOI (c:C4):(KT c).flatten=A5 c:=by
  unfold KT A5 zP;rw[List.flatten_append,WO,List.append_nil,List.flatten_flatten,List.map_map];congr 2;exact List.map_congr_left fun x _=>aGJ x
theorem aGS {c:C4}(h:vS c=true):LN (A5 c)=KT c:=by
  obtain⟨_,_,h3,_,h5,_⟩:=EW h
  have hW:WL (KT c++[]):=NE .nil fun y hy=>by
    unfold KT at hy;rcases aRO.1 hy with hy|hy
    ·exact a7J h3 y hy
    · obtain⟨z,hz,hy⟩:=List.mem_flatten.1 hy
      obtain⟨x,hx,rfl⟩:=List.mem_map.1 hz;exact aGP (h5 x hx) y hy
  rw[List.append_nil] at hW;rw[←aOI,aFG hW]
theorem aGT {c:C4}(h:vS c=true):DE (A5 c)=some (c.1,c.2.1,c.2.2.1,c.2.2.2.1,((wU c).length::wT (wU c).length (c.2.2.2.1.map uN)).map (fun n:Nat=>(n:Int)),0,0):=by
  obtain⟨h1,h2,h3,h4,h5,h6⟩:=EW h;have hsm:=a7N h;obtain⟨i1,e1⟩:=aGI (rest:=(c.2.2.2.1.map CJ).flatten) h1 h2 h3;obtain⟨i2,a2,e2⟩:=aGK (tag:=c.1) (cms:=c.2.1) (fds:=c.2.2.1) c.2.2.2.1 [] [((wU c).length:Int)] (wU c).length i1 (by simp) h5 (by simpa using h6) (by simpa using h4) (by simp)
  have hrun:qM (xP (LN (A5 c))) BQ=some (.inl (([((wU c).length:Int)]++(wT (wU c).length (c.2.2.2.1.map uN)).map fun n:Nat=>(n:Int)),c.1,c.2.1,c.2.2.1,[]++c.2.2.2.1,[],[],[],[],[],0,[],false,false,-1)):=by
    rw[VZ hsm,aGS h];unfold KT;rw[e1,e2];rfl
  unfold DE;rw[QX hsm,aRf];have hrun':qM (xP ((uS (A5 c)).map (·.2))) (([]:List Int),(0:Int),(0:Int),([]:List UInt8),([]:List (List UInt8)),([]:List qB),([]:List qQ),([]:List UInt8),([]:List UInt8),([]:List UInt8),([]:List (List UInt8)),([]:List (List UInt8)),(0:Int),([]:List qB),false,false,(-1:Int))=_:=hrun;rw[hrun'];unfold sN;rw[aRf];dsimp only;rw[if_neg (by simp;omega),if_neg (by simp)];rfl
theorem aOJ {c:C4}(h:vS c=true):xR (A5 c)=some (c.1,c.2.1,c.2.2.1,c.2.2.2.1,0,0):=by
  obtain⟨v,h1,h2,_⟩:=VX (a7N h);unfold K6 at h2;rw[aGT h,aRf] at h2;rw[h1,←h2]
theorem aOK {s:List UInt8}(hsm:s.length≤4000000000): ∃v,xR s=some v∧(v.2.2.2.2.2=0→vS (v.1,(v.2.1,(v.2.2.1,(v.2.2.2.1,()))))=true)∧(v.2.2.2.2.2≠0→v.1=[]∧v.2.1=[]∧v.2.2.1=[]∧v.2.2.2.1=[]):=by
  obtain⟨v,h1,h2,_⟩:=VX hsm;obtain⟨w,g1,g2,g3⟩:=aGk hsm;unfold K6 at h2;rw[g1,aRf] at h2;cases h2;exact⟨_,h1,fun h=>(g2 h).1,fun h=>⟨(g3 h).1,(g3 h).2.1,(g3 h).2.2.1,(g3 h).2.2.2.1⟩⟩
set_option maxRecDepth 1000000
section
variable {s:List UInt8}(hsm:s.length<=4000000000) {l:List Nat}(hne:l≠[]) (hs:l.Pairwise (·<=·)) (hle: ∀x∈l,x<=s.length) (hl:l.length<=4000000000)
include hsm hne hs hle hl
theorem aOL {r:PS}(hr:r.2.2.2.2.2.1=l.map (fun n:Nat=>(n:Int))):qM (MX s r) (1,[])=some ((NI s l).drop 1):=by
 have hpos:0<l.length:=aSI.2 hne;have hloop:=aF3 (f:=MX s r) (n:=l.length-1) (fun i=>(((i+1:Nat):Int),((List.range (i+1)).map (pc s l)).drop 1)) (r:=(NI s l).drop 1)
  (fun i hi=>by
   have h1:=a7q hle (show i+1<l.length by omega);have h2:=aNG hs (show i<i+1 by omega) (show i+1<l.length by omega);unfold MX;dsimp only;rw[hr,aSq,if_pos (tO (by omega)),if_pos (by unfold pP;omega),show (((i+1:Nat):Int)-1)=(i:Int) by omega,if_pos (sA (by omega)),if_pos (sA (by omega)),WC (show i<l.length by omega),WC (show i+1<l.length by omega),if_pos ⟨Int.natCast_nonneg _,Int.ofNat_le.2 h2,Int.ofNat_le.2 h1⟩,if_pos (by rw[aRy,aSq,List.length_range,aR5];omega),if_pos (tC (by omega))];rw[List.range_succ (n:=i+1),List.map_append,List.drop_append_of_le_length (by simp)];rfl)
  (by
   unfold MX;dsimp only;rw[hr,aSq,show l.length-1+1=l.length by omega,if_neg (vI _)]) (l.length-1) 0 (by omega)
 exact hloop
theorem aGU {r:PS}(h:t8 s=some r) (hr:r.2.2.2.2.2.1=l.map (fun n:Nat=>(n:Int))):
  AT s=some (pc s l 0,(NI s l).drop 1,q7 s (NJ l:Nat) (s.length:Int),0):=by
 have hpos:0<l.length:=aSI.2 hne;have h0:=a7q hle hpos;have hlast:NJ l<=s.length:=a7q hle (show l.length-1<l.length by omega);unfold AT;rw[h,if_pos (show (some r).isSome=true from rfl),aRf,if_neg (show¬(!decide ((0:Int)=0))=true by decide),aOL hsm hne hs hle hl hr,hr,aSq,if_pos ⟨aSi _,by omega⟩];have n0:qD (.int .i64) (l.map (fun n:Nat=>(n:Int))) (0:Int)=(l.getD 0 0:Nat):=WC hpos;have n1:qD (.int .i64) (l.map (fun n:Nat=>(n:Int))) ((l.length:Int)-1)=(NJ l:Nat):=by
  rw[show ((l.length:Int)-1)=((l.length-1:Nat):Int) by omega];exact WC (by omega)
 rw[n0,n1,if_pos ⟨aSi _,Int.natCast_nonneg _,Int.ofNat_le.2 h0⟩,if_pos (by unfold pP;omega),if_pos ⟨by omega,by omega⟩,if_pos ⟨Int.natCast_nonneg _,Int.ofNat_le.2 hlast,aSi _⟩];rfl
end
theorem aOM {c:C4}(h:vS c=true):AT (A5 c)=some (wU c,c.2.2.2.1.map uN,[],0):=by
 have hsm:=a7N h;obtain⟨v,h1,_,_,_,_,h2⟩:=VW hsm;rw[aGT h] at h1;cases h1;have hs:A5 c=wU c++((c.2.2.2.1.map uN).flatten++[]):=rfl;rcases h2 with⟨e1,_⟩ |⟨e1,_,⟨l,g1,g2,g3,g4⟩,e5,r,p1,_,_,_,_,q⟩
 ·exact absurd rfl e1
 ·have hl:l=(wU c).length::wT (wU c).length (c.2.2.2.1.map uN):=by
   exact((List.map_inj_right (f:=fun n:Nat=>(n:Int)) (fun a b hab=>by
    have hab':(a:Int)=(b:Int):=hab;omega)).1 g1).symm
  have hlen:l.length<=4000000000:=by
   obtain⟨_,_,_,h4,_⟩:=EW h;rw[hl,aRj,R6,aSq];omega
  have hq:r.2.2.2.2.2.1=l.map (fun n:Nat=>(n:Int)):=q.trans g1;rw[aGU hsm g2 g3 g4 hlen p1 hq,hl,aGg hs,aGh hs,aGi hs]
abbrev GQ:=List UInt8×List (List UInt8)×List (List UInt8)×Int×List rH×Bool×Bool
abbrev b7:GQ:=([],[],[],0,[],false,false)
def GR (l:List UInt8):Prop:= ∃q,u7 l=some q/\q.1<=1
inductive BR:List (List UInt8)->GQ->GQ->Prop
 |nil {b:GQ}:BR [] b b
 |skip {l:List UInt8}{ls:List (List UInt8)}{b b':GQ}(h:GR l) (r:BR ls b b'):BR (l::ls) b b'
 |add {l:List UInt8}{ls:List (List UInt8)}{b':GQ}{q:Int×List UInt8×List UInt8×Bool}{src src':List UInt8}{cm cm' fl fl':List (List UInt8)}{st st':Int}{fd fd':List rH}{hs hs' ht ht':Bool}(hq:u7 l=some q) (hm:(((decide ((2:Int)<=q.1))&&(decide (q.1<=(7:Int))))&&(!decide (q.1=(3:Int))))=true)
   (hA:tG (([],(src,([],(cm,(fl,(st,(fd,()))))))),(hs,(ht,(0,())))) (q.1,(q.2.1,(q.2.2.1,(q.2.2.2,()))))=some (src',cm',fl',st',fd',hs',ht',0)) (r:BR ls (src',cm',fl',st',fd',hs',ht') b'):BR (l::ls) (src,cm,fl,st,fd,hs,ht) b'
inductive NS:List (List UInt8)->rX->Prop
 |mk {pre:List (List UInt8)}{last k v src:List UInt8}{cm fl:List (List UInt8)}{st:Int}{fd:List rH}{hs ht:Bool}(h:BR pre b7 (src,cm,fl,st,fd,hs,ht)) (hq:u7 last=some (9,k,v,false)) (hk:EQ k=true):NS (pre++[last]) (k,(src,(v,(cm,(fl,(st,(fd,())))))))
inductive B3:List (List (List UInt8))->List rX->Prop
 |nil:B3 [] []
 |cons {L:List (List UInt8)}{y:rX}{Ls:List (List (List UInt8))}{ys:List rX}(h:NS L y) (hs:B3 Ls ys):B3 (L::Ls) (y::ys)
section
variable {line:List UInt8}{ends:List Int}{at_ i:Int}{tag src src':List UInt8}{cms cm cm' fl fl':List (List UInt8)}{fds fd fd':List rH}{es:List rX}{st st' op:Int}{hs ht hs' ht':Bool}{q:Int×List UInt8×List UInt8×Bool}
theorem aON (hne:ends≠[]) (hq:u7 line=some q) (hm:(((decide ((2:Int)<=q.1))&&(decide (q.1<=(7:Int))))&&(!decide (q.1=(3:Int))))=true)
  (hA:tG (([],(src,([],(cm,(fl,(st,(fd,()))))))),(hs,(ht,(0,())))) (q.1,(q.2.1,(q.2.2.1,(q.2.2.2,()))))=some (src',cm',fl',st',fd',hs',ht',0)):
  ∃op',uT line (eB ends at_ i tag cms fds es src cm fl st fd hs ht op)=some (.inl (eB ends (at_+(line.length:Int)) (i+1) tag cms fds es src' cm' fl' st' fd' hs' ht' op')):=by
 have h9: ¬decide (q.1=9)=true:=by
  simp only[aRm,aRk] at hm;simp only[aRk];omega
 have hr: ∃op',tT (eB ends at_ i tag cms fds es src cm fl st fd hs ht op) q=some (0,false,tag,cms,fds,es,[],src',[],cm',fl',st',fd',hs',ht',op'):=by
  unfold tT;dsimp only;rw[if_neg (by simp [hne]),if_neg h9,if_pos hm,aFH (op:=op) (op':=0),hA,aRf];by_cases hop:decide (op<0)=true
  ·rw[if_pos hop];exact⟨_,rfl⟩
  ·rw[if_neg hop];exact⟨_,rfl⟩
 obtain⟨op',hr⟩:=hr;refine⟨op',?_⟩;unfold uT;rw[hq,aRf,hr,aRf];dsimp only;rw[if_neg (by simp),if_neg (by simp)]
theorem aGV (hne:ends≠[]) (h:GR line):uT line (eB ends at_ i tag cms fds es src cm fl st fd hs ht op)=some (.inl (eB ends (at_+(line.length:Int)) (i+1) tag cms fds es src cm fl st fd hs ht op)):=by
 obtain⟨q,hq,h1⟩:=h;have hr:tT (eB ends at_ i tag cms fds es src cm fl st fd hs ht op) q=some (0,false,tag,cms,fds,es,[],src,[],cm,fl,st,fd,hs,ht,op):=by
  unfold tT;dsimp only;rw[if_neg (by simp [hne]),if_neg (by simp;omega),if_neg (by simp;omega),if_neg (by simp;omega)]
 unfold uT;rw[hq,aRf,hr,aRf];dsimp only;rw[if_neg (by simp),if_neg (by simp)]
end
theorem aOO {ends:List Int}{tag:List UInt8}{cms:List (List UInt8)}{fds:List rH}{es:List rX}{rest:List (List UInt8)}(hne:ends≠[]) {ls:List (List UInt8)}{b b':GQ}(h:BR ls b b'): ∀(at_ i op:Int),
  ∃i' op',sL (ls++rest) (eB ends at_ i tag cms fds es b.1 b.2.1 b.2.2.1 b.2.2.2.1 b.2.2.2.2.1 b.2.2.2.2.2.1 b.2.2.2.2.2.2 op)=sL rest (eB ends (at_+((ls.flatten.length:Nat):Int)) i' tag cms fds es b'.1 b'.2.1 b'.2.2.1 b'.2.2.2.1 b'.2.2.2.2.1 b'.2.2.2.2.2.1 b'.2.2.2.2.2.2 op'):=by
 induction h with
 |nil=>
  intro at_ i op;refine⟨i,op,?_⟩;simp
 | @skip l ls b b' h r ih=>
  intro at_ i op;obtain⟨i',op',e⟩:=ih (at_+(l.length:Int)) (i+1) op;refine⟨i',op',?_⟩;rw[List.cons_append,CI (aGV hne h),e,aRS,aRh];congr 2;omega
 | @add l ls b' q src src' cm cm' fl fl' st st' fd fd' hs hs' ht ht' hq hm hA r ih=>
  intro at_ i op;obtain⟨op1,e1⟩:=aON (at_:=at_) (i:=i) (tag:=tag) (cms:=cms) (fds:=fds) (es:=es) (op:=op) hne hq hm hA;obtain⟨i',op',e⟩:=ih (at_+(l.length:Int)) (i+1) op1;refine⟨i',op',?_⟩;rw[List.cons_append,CI e1];refine e.trans ?_;rw[aRS,aRh];congr 2;omega
theorem aOP {L:List (List UInt8)}{x:rX}{tag:List UInt8}{rest:List (List UInt8)}{ends:List Int}{cms:List (List UInt8)}{fds:List rH}{es:List rX}(hne:ends≠[]) (h:NS L x) (hes:es.length<1000) (hen:ends.length<=5000) (hnew:(es.any fun y=>decide (y.1=x.1))=false) (a i:Int):
  ∃i',sL (L++rest) (eB ends a i tag cms fds es [] [] [] 0 [] false false (-1))=sL rest (eB (ends++[a+((L.flatten.length:Nat):Int)]) (a+((L.flatten.length:Nat):Int)) i' tag cms fds (es++[x]) [] [] [] 0 [] false false (-1)):=by
 cases h with
 | @mk pre last k v src cm fl st fd hs ht h hq hk=>
  obtain⟨i1,o1,e1⟩:=aOO (tag:=tag) (cms:=cms) (fds:=fds) (es:=es) (rest:=[last]++rest) hne h a i (-1);refine⟨i1+1,?_⟩;have s6:=aGD (at_:=a+((pre.flatten.length:Nat):Int)) (i:=i1) (tag:=tag) (cms:=cms) (fds:=fds) (src:=src) (cm:=cm) (fl:=fl) (st:=st) (fd:=fd) (hs:=hs) (ht:=ht) (op:=o1) hne hq hk hes hen hnew;rw[aRo];refine e1.trans ?_;rw[aR4,CI s6];have e7:a+((pre.flatten.length:Nat):Int)+(last.length:Int)=a+(((pre++[last]).flatten.length:Nat):Int):=by
   rw[List.flatten_append,aRh,List.flatten_singleton];omega
  rw[e7]
theorem aGW {tag:List UInt8}{ends:List Int}{cms:List (List UInt8)}{fds:List rH}{es:List rX}(hne:ends≠[]): ∀{tl:List (List UInt8)},(∀l∈tl,GR l)->∀(a i:Int),sL tl (eB ends a i tag cms fds es [] [] [] 0 [] false false (-1))=some (.inl (ends,tag,cms,fds,es,[],[],[],[],[],0,[],false,false,-1))
 |[],_,a,i=>rfl
 |l::tl,h,a,i=>by
  rw[CI (aGV hne (h l aRB))];exact aGW hne (fun x hx=>h x (aRt _ hx)) _ _
theorem aGX {tag:List UInt8}{cms:List (List UInt8)}{fds:List rH}{tl:List (List UInt8)}(htl: ∀l∈tl,GR l): ∀{Ls:List (List (List UInt8))}{ys:List rX},B3 Ls ys->∀(es:List rX) (ends:List Int) (a i:Int),ends≠[]->(es++ys).Pairwise (fun a b=>a.1≠b.1)->es.length+ys.length<=1000->ends.length<=es.length+1->
  ∃ends',sL (Ls.flatten++tl) (eB ends a i tag cms fds es [] [] [] 0 [] false false (-1))=some (.inl (ends',tag,cms,fds,es++ys,[],[],[],[],[],0,[],false,false,-1))/\ends'≠[]
 |_,_,.nil,es,ends,a,i,hne,_,_,_=>⟨ends,by rw[List.append_nil];exact aGW hne htl a i,hne⟩
 |_,_,.cons (L:=L) (y:=y) (Ls:=Ls) (ys:=ys) h hs,es,ends,a,i,hne,hp,hl,hle=>by
  rw[aRj] at hl;have hnew:(es.any fun w=>decide (w.1=y.1))=false:=by
   rw[aR6];intro w hw;simpa using(aSA.1 hp).2.2 w hw y aRB
  obtain⟨i1,e1⟩:=aOP (tag:=tag) (cms:=cms) (fds:=fds) (rest:=Ls.flatten++tl) hne h (by omega) (by omega) hnew a i;obtain⟨ends',e2,e3⟩:=aGX htl hs (es++[y]) (ends++[a+((L.flatten.length:Nat):Int)]) (a+((L.flatten.length:Nat):Int)) i1 (by simp) (by rw[aRo,aR4];exact hp) (by rw[aRh,aR5];omega) (by simp only[aRh,aR5];omega);refine⟨ends',?_,e3⟩;rw[aRS,aRo,e1,e2,aRo,aR4]
theorem BR.snoc {ls:List (List UInt8)}{b b' b2:GQ}(h:BR ls b b'): ∀{l:List UInt8},BR [l] b' b2->BR (ls++[l]) b b2:=by
 induction h with
 |nil=>intro l h;exact h
 |skip h r ih=>intro l h2;exact .skip h (ih h2)
 |add hq hm hA r ih=>intro l h2;exact .add hq hm hA (ih h2)
theorem aOQ {l:List UInt8}{ends:List Int}{at_ i:Int}{tag src:List UInt8}{cms cm fl:List (List UInt8)}{fds fd:List rH}{es:List rX}{st op:Int}{hs ht:Bool}{b':RS}(hne:ends≠[]) (h:uT l (eB ends at_ i tag cms fds es src cm fl st fd hs ht op)=some (.inl b')):
  (GR l/\b'=eB ends (at_+(l.length:Int)) (i+1) tag cms fds es src cm fl st fd hs ht op)\/
  (∃src' cm' fl' st' fd' hs' ht' op',BR [l] (src,cm,fl,st,fd,hs,ht) (src',cm',fl',st',fd',hs',ht')/\(op'<0->at_<0)/\b'=eB ends (at_+(l.length:Int)) (i+1) tag cms fds es src' cm' fl' st' fd' hs' ht' op')\/
  (∃k v,u7 l=some (9,k,v,false)/\EQ k=true/\b'=eB (ends++[at_+(l.length:Int)]) (at_+(l.length:Int)) (i+1) tag cms fds (es++[(k,(src,(v,(cm,(fl,(st,(fd,())))))))]) [] [] [] 0 [] false false (-1)):=by
 unfold uT at h;obtain⟨q,hq,h⟩:=Vc.pS h;obtain⟨r,hr,h⟩:=Vc.pS h;rcases rY h with⟨_,h⟩ |⟨hz,h⟩
 ·cases h
 ·have hz':r.1=0:=by simpa using hz
  unfold tT at hr;rcases rY hr with⟨hlen,hr⟩ |⟨hlen,hr⟩
  ·exact absurd (by simpa using hlen) hne
  ·rcases rY hr with⟨h9,hr⟩ |⟨h9,hr⟩
   ·obtain⟨w,hw,hr⟩:=Vc.pS hr;cases hr;right;right;dsimp only at h hz';rw[if_pos rfl] at h;rcases rY h with⟨_,h⟩ |⟨_,h⟩
    ·cases h;unfold E9 at hw;rcases rY hw with⟨_,hw⟩ |⟨hc0,hw⟩
     ·cases hw;exact absurd hz' (by simp)
     ·simp only[aSu,aRk,not_or,aSc] at hc0;obtain⟨f,hf,hw⟩:=Vc.pS hw;rcases rY hw with⟨_,hw⟩ |⟨_,hw⟩
      ·cases hw;exact absurd hz' (by simp)
      ·rcases rY hw with⟨_,hw⟩ |⟨_,hw⟩
       ·cases hw;exact absurd hz' (by simp)
       ·rcases rY hw with⟨_,hw⟩ |⟨_,hw⟩
        ·rcases rY hw with⟨_,hw⟩ |⟨_,hw⟩
         ·cases hw;obtain⟨q1,q2,q3,q4⟩:=q;dsimp only at hc0 h9;have h9':q1=9:=by simpa using h9
          have hb:q4=false:=hc0.1.1;refine⟨q2,q3,by rw[hq,h9',hb],?_,by simp⟩;unfold EQ;have:=hc0.2;simp [hc0.1.2];omega
         ·cases hw
        ·cases hw
    ·cases h
   ·rcases rY hr with⟨hm,hr⟩ |⟨hm,hr⟩
    ·obtain⟨w,hw,hr⟩:=Vc.pS hr;right;left;obtain⟨w1,w2,w3,w4,w5,w6,w7,w8⟩:=w;rw[aFH (op:=op) (op':=0)] at hw;rcases rY hr with⟨_,hr⟩ |⟨ho,hr⟩
     ·cases hr;dsimp only at h hz';rw[if_neg (by decide)] at h;cases h;exact⟨w1,w2,w3,w4,w5,w6,w7,at_,.add hq hm (by rw[hw,hz']) .nil,fun h=>h,rfl⟩
     ·cases hr;dsimp only at h hz';rw[if_neg (by decide)] at h;cases h;exact⟨w1,w2,w3,w4,w5,w6,w7,op,.add hq hm (by rw[hw,hz']) .nil,fun h=>absurd (aSd h) ho,rfl⟩
    ·rcases rY hr with⟨_,hr⟩ |⟨h1,hr⟩
     ·cases hr;exact absurd hz' (by simp)
     ·cases hr;dsimp only at h;rw[if_neg (by decide)] at h;cases h;left;exact⟨⟨q,hq,by simp only[aRk] at h1;omega⟩,rfl⟩
theorem WP {tag:List UInt8}{cms:List (List UInt8)}{fds:List rH}: ∀(ls pre:List (List UInt8)) (ends:List Int) (at_ i:Int) (es:List rX) (b:GQ) (op:Int) (f:FR),ends≠[]->0<=at_- ((pre.flatten.length:Nat):Int)->BR pre b7 b->(op<0->∀l∈pre,GR l)->
  sL ls (eB ends at_ i tag cms fds es b.1 b.2.1 b.2.2.1 b.2.2.2.1 b.2.2.2.2.1 b.2.2.2.2.2.1 b.2.2.2.2.2.2 op)=some (.inl f)->f.2.2.2.2.2.2.2.2.2.2.2.2.2.2<0->
  ∃(Ls:List (List (List UInt8))) (ys:List rX) (tl:List (List UInt8)),pre++ls=Ls.flatten++tl/\B3 Ls ys/\(∀l∈tl,GR l)/\(∃es':List Nat,f.1=ends++es'.map (fun n:Nat=>(n:Int))/\es'=wT (at_- ((pre.flatten.length:Nat):Int)).toNat (Ls.map List.flatten))/\f.2.1=tag/\f.2.2.1=cms/\f.2.2.2.1=fds/\f.2.2.2.2.1=es++ys
 |[],pre,ends,at_,i,es,b,op,f,hne,ha,hb,hop,h,hf=>by
  cases h;exact⟨[],[],pre,by simp,.nil,hop hf,⟨[],by simp,rfl⟩,rfl,rfl,rfl,by simp⟩
 |l::ls,pre,ends,at_,i,es,b,op,f,hne,ha,hb,hop,h,hf=>by
  have h':=h;unfold sL at h';obtain⟨w,hw,h'⟩:=Vc.pS h';cases w with
  |inr e=>cases h'
  |inl b'=>
   dsimp only at h';have hlen:(((pre++[l]).flatten.length:Nat):Int)=((pre.flatten.length:Nat):Int)+(l.length:Int):=by
    rw[List.flatten_append,aRh,List.flatten_singleton];omega
   have hpos:at_+(l.length:Int)- (((pre++[l]).flatten.length:Nat):Int)=at_- ((pre.flatten.length:Nat):Int):=by omega
   rcases aOQ hne hw with⟨hsk,rfl⟩ |⟨src',cm',fl',st',fd',hs',ht',op',hB,hop',rfl⟩ |⟨k,v,hq,hk,rfl⟩
   ·obtain⟨Ls,ys,tl,g1,g2,g3,⟨es',g4,g5⟩,g6⟩:=WP ls (pre++[l]) ends (at_+(l.length:Int)) (i+1) es b op f hne (by omega) (hb.snoc (.skip hsk .nil)) (fun ho x hx=>by
     rcases aRO.1 hx with hx|hx
     ·exact hop ho x hx
     ·rw[aRr.1 hx];exact hsk) h' hf
    refine⟨Ls,ys,tl,by rw[<-g1];simp,g2,g3,⟨es',g4,by rw[g5,hpos]⟩,g6⟩
   ·obtain⟨Ls,ys,tl,g1,g2,g3,⟨es',g4,g5⟩,g6⟩:=WP ls (pre++[l]) ends (at_+(l.length:Int)) (i+1) es (src',cm',fl',st',fd',hs',ht') op' f hne (by omega) (hb.snoc hB) (fun ho=>by
     have:=hop' ho;omega) h' hf
    refine⟨Ls,ys,tl,by rw[<-g1];simp,g2,g3,⟨es',g4,by rw[g5,hpos]⟩,g6⟩
   ·obtain⟨Ls,ys,tl,g1,g2,g3,⟨es',g4,g5⟩,g6,g7,g8,g9⟩:=WP ls [] (ends++[at_+(l.length:Int)]) (at_+(l.length:Int)) (i+1) (es++[(k,(b.1,(v,(b.2.1,(b.2.2.1,(b.2.2.2.1,(b.2.2.2.2.1,())))))))]) b7 (-1) f (by simp) (by simp;omega) .nil (fun _ x hx=>by cases hx) h' hf;refine⟨(pre++[l])::Ls,_::ys,tl,?_,.cons (.mk hb hq hk) g2,g3,⟨(at_+(l.length:Int)).toNat::es',?_,?_⟩,g6,g7,g8,by rw[g9,aRo,aR4]⟩
    ·rw[aRS,aRo,aRo,<-g1];rfl
    ·rw[g4,aRo,aR4,aR2];congr 2;omega
    ·rw[aR2,wT,g5];have e1:(at_+(l.length:Int)).toNat=(at_- ((pre.flatten.length:Nat):Int)).toNat+(pre++[l]).flatten.length:=by omega
     have e2:(at_+(l.length:Int)- (([]:List (List UInt8)).flatten.length:Nat)).toNat=(at_- ((pre.flatten.length:Nat):Int)).toNat+(pre++[l]).flatten.length:=by simp only[List.flatten_nil,aRs];omega
     rw[e2,e1]
def aGY (t:List UInt8) (y:rX):Prop:= ∀(s z:List UInt8) (P:Nat) (bad:Int) (tag:List UInt8) (cms:List (List UInt8)) (fds:List rH) (es:List rX) (ends:List Int),s.length<=4000000000->At s P (t++z)->es.length<1000->(es.any fun w=>decide (w.1=y.1))=false->ends.length<=5000->
 aEr (s,((P:Int),(bad,(0,((tag,(cms,(fds,(es,())))),(ends,()))))))=some (((P+t.length:Nat):Int),bad,0,es++[y],ends++[((P+t.length:Nat):Int)])
inductive IJ:List (List UInt8)->List rX->Prop
 |nil:IJ [] []
 |cons {t:List UInt8}{y:rX}{ts:List (List UInt8)}{ys:List rX}(h:aGY t y) (hs:IJ ts ys):IJ (t::ts) (y::ys)
theorem IJ.len: ∀{ts:List (List UInt8)}{ys:List rX},IJ ts ys->ts.length=ys.length
 |_,_,.nil=>rfl
 |_,_,.cons _ hs=>by rw[aRj,aRj,hs.len]
theorem IJ.set {x:List UInt8}{y:rX}(hx:aGY x y): ∀{ts:List (List UInt8)}{ys:List rX}(k:Nat),IJ ts ys->IJ (ts.set k x) (ys.set k y)
 |_,_,_,.nil=> .nil
 |_,_,0,.cons _ hs=> .cons hx hs
 |_,_,k+1,.cons h hs=> .cons h (hs.set hx k)
theorem aOR {es:List rX}{x:rX}{k:Nat}(h:es.Pairwise (fun a b=>a.1≠b.1)) (hx: ∀(j:Nat) (hj:j<es.length),j≠k->es[j].1≠x.1):(es.set k x).Pairwise (fun a b=>a.1≠b.1):=by
 rw[aSm] at h⊢;intro i j hi hj hij;rw[List.length_set] at hi hj;rw[List.getElem_set,List.getElem_set];by_cases h1:k=i
 ·rw[if_pos h1,if_neg (by omega)];exact fun e=>hx j hj (by omega) e.symm
 ·rw[if_neg h1];by_cases h2:k=j
  ·rw[if_pos h2];exact hx i hi (by omega)
  ·rw[if_neg h2];exact h i j hi hj hij
theorem aOS {es:List rX}{x:List UInt8}{k:Nat}(hp:es.Pairwise (fun a b=>a.1≠b.1)) (h:(IF es x).2=true->(IF es x).1=(k:Int)): ∀(j:Nat) (hj:j<es.length),j≠k->es[j].1≠x:=by
 intro j hj hne he;unfold IF at h;cases hf:es.findIdx? fun y=>decide (y.1=x) with
 |none=>
  have:=aSn.1 hf es[j] (aSa hj);rw[he] at this;simp at this
 |some i=>
  rw[hf] at h;have hik:(i:Int)=(k:Int):=h rfl;obtain⟨hi,hie,_⟩:=aRT.1 hf;have hie':es[i].1=x:=by simpa using hie
  rw[aSm] at hp;rcases aSw i j with h1|h1
  ·exact hp i j hi hj h1 (by rw[hie',he])
  ·exact hp j i hj hi (by omega) (by rw[hie',he])
theorem aOT {es:List rX}{x:rX}{k:Nat}(h:GL es) (hx:wF x=true) (hf: ∀(j:Nat) (hj:j<es.length),j≠k->es[j].1≠x.1):GL (es.set k x):=
 ⟨by rw[List.length_set];exact h.len,fun y hy=>by
  rcases List.mem_or_eq_of_mem_set hy with h1|h1
  ·exact h.ok y h1
  ·rw[h1];exact hx,aOR h.pw hf⟩
theorem aGZ {x:rX}(hx:wF x=true):GL [x]:=⟨by simp,fun y hy=>by rw[aRr.1 hy];exact hx,aSS _ _⟩
theorem aOU {c:C4}(h:vS c=true):GL c.2.2.2.1:=by
 obtain⟨_,_,_,h4,h5,h6⟩:=EW h;exact⟨h4,h5,h6⟩
theorem aOV {a:Int}(h0:0<=a) (h1:a<65536) {n:Nat}(hn:0<n): ∃k:Nat,k<n/\Int.tmod (IntKind.wrap .i64 a) (n:Int)=(k:Int):=by
 obtain⟨m,rfl⟩:=Int.eq_ofNat_of_zero_le h0;refine⟨m%n,Nat.mod_lt _ hn,?_⟩;have hw:IntKind.wrap .i64 (m:Int)=(m:Int):=by
  have e:(m:Int) %2^64=m:=Int.emod_eq_of_lt (by omega) (by omega);have e2:IntKind.wrap .i64 (m:Int)=if (true&&decide ((m:Int) %2^64>=2^63))=true then(m:Int) %2^64-2^64 else(m:Int) %2^64:=rfl;rw[e2,e,if_neg (by simp;omega)]
 rw[hw];exact(Int.ofNat_tmod m n).symm
theorem aOW {ts:List (List UInt8)}{x:List UInt8}: ∀(k:Nat),(ts.set k x).flatten.length<=ts.flatten.length+x.length:=by
 induction ts with
 |nil=>intro k;simp
 |cons t ts ih=>
  intro k;cases k with
  |zero=>simp only[List.set_cons_zero,aRS,aRh];omega
  |succ k=>
   have:=ih k;simp only[List.set_cons_succ,aRS,aRh];omega
theorem WL.parts: ∀{a b:List (List UInt8)},WL (a++b)->WL a/\WL b/\(b≠[]->∀x∈a,CH x)
 |[],b,h=>⟨.nil,h,fun _ x hx=>by cases hx⟩
 |x::a,b,h=>by
  rw[List.cons_append] at h;generalize hl:x::(a++b)=l at h;cases h with
  |nil=>cases hl
  |one h0 hu=>
   rename_i u;simp only[aR7,List.append_eq_nil_iff] at hl;obtain⟨rfl,rfl,rfl⟩:=hl;exact⟨.one h0 hu,.nil,fun h=>absurd rfl h⟩
  |cons hu h=>
   rename_i u l';simp only[aR7] at hl;obtain⟨rfl,rfl⟩:=hl;obtain⟨h1,h2,h3⟩:=WL.parts h;exact⟨.cons hu h1,h2,fun hb y hy=>by
    rcases aRv.1 hy with rfl|hy
    ·exact⟨u,hu,rfl⟩
    ·exact h3 hb y hy⟩
theorem aOX {L:List (List UInt8)}{y:rX}(h:NS L y):L≠[]:=by
 cases h with
 |mk h hq hk=>simp
theorem B3.len: ∀{Ls:List (List (List UInt8))}{ys:List rX},B3 Ls ys->Ls.length=ys.length
 |_,_,.nil=>rfl
 |_,_,.cons _ hs=>by rw[aRj,aRj,hs.len]
theorem B3.set {L:List (List UInt8)}{y:rX}(hx:NS L y): ∀{Ls:List (List (List UInt8))}{ys:List rX}(k:Nat),B3 Ls ys->B3 (Ls.set k L) (ys.set k y)
 |_,_,_,.nil=> .nil
 |_,_,0,.cons _ hs=> .cons hx hs
 |_,_,k+1,.cons h hs=> .cons h (hs.set hx k)
theorem B3.ne: ∀{Ls:List (List (List UInt8))}{ys:List rX},B3 Ls ys->∀L∈Ls,L≠[]
 |_,_,.cons h hs,L,hL=>by
  rcases aRv.1 hL with rfl|hL
  ·exact aOX h
  ·exact hs.ne L hL
theorem WL.set {H tl L:List (List UInt8)}{Ls:List (List (List UInt8))}{k:Nat}(hk:k<Ls.length) (hne: ∀L∈Ls,L≠[]) (hL: ∀x∈L,CH x) (h:WL (H++(Ls.flatten++tl))):WL (H++((Ls.set k L).flatten++tl)):=by
 have e1:Ls=Ls.take k++Ls[k]::Ls.drop (k+1):=by rw[<-aRC hk,aSs]
 have e2:Ls.set k L=Ls.take k++L::Ls.drop (k+1):=by
  rw[List.set_eq_take_append_cons_drop,if_pos hk]
 have hb:Ls[k]≠[]:=hne _ (aSa hk);rw[e2];rw[e1] at h;simp only[List.flatten_append,aRS,aRo] at h⊢;obtain⟨_,h2,h3⟩:=WL.parts h;obtain⟨_,h4,h5⟩:=WL.parts h2;obtain⟨_,h6,_⟩:=WL.parts h4;have n1:Ls[k]++((Ls.drop (k+1)).flatten++tl)≠[]:=by simp [hb]
 have n2:(Ls.take k).flatten++(Ls[k]++((Ls.drop (k+1)).flatten++tl))≠[]:=by simp [hb]
 exact NE (NE (NE h6 hL) (h5 n1)) (h3 n2)
theorem aOY {c:tY}{x:HG}{p:HH}{r:a7C}(h:xG c x p=some r) (he:r.2.2.2.2.2.2.2.2.2.2.2.2.2.2=0) (hd:r.2.2.2.2.2.2.2.2.2.2.2.2.2.1=true):r=(r.1,r.2.1,r.2.2.1,[],[],[],[],[],0,[],false,false,-1,true,0):=by
 unfold xG at h;obtain⟨b1,_,h⟩:=Vc.pS h;rcases rY h with⟨_,h⟩ |⟨_,h⟩
 ·cases h;cases hd
 ·obtain⟨b2,_,h⟩:=Vc.pS h;rcases rY h with⟨_,h⟩ |⟨_,h⟩
  ·obtain⟨a,ha,h⟩:=Vc.pS h;cases h;cases hd
  ·rcases rY h with⟨_,h⟩ |⟨_,h⟩
   ·rcases rY h with⟨_,h⟩ |⟨_,h⟩
    ·rcases rY h with⟨hb,h⟩ |⟨hb,h⟩
     ·cases h;exact absurd he (by simp)
     ·rcases rY h with⟨_,h⟩ |⟨_,h⟩
      ·cases h;exact absurd he (by simp)
      ·cases h;cases hd
    ·cases h
   ·rcases rY h with⟨_,h⟩ |⟨_,h⟩
    ·rcases rY h with⟨ht,h⟩ |⟨ht,h⟩
     ·cases h;exact absurd he (by simp)
     ·cases h;rfl
    ·cases h;exact absurd he (by simp)
abbrev hE (a i:Int) (tag:List UInt8) (cms:List (List UInt8)) (fds:List rH):RS:=eB [a] a i tag cms fds [] [] [] [] 0 [] false false (-1)
theorem aG0: ∀(ls:List (List UInt8)) (b:RS) (f:FR),b.1=[]->b.2.2.2.2.2.2.1=[]->0<=b.2.1->sL ls b=some (.inl f)->f.1≠[]->
  ∃(H r:List (List UInt8)) (i:Int) (tag:List UInt8) (cms:List (List UInt8)) (fds:List rH),ls=H++r/\(∀rest,sL (H++rest) b=sL rest (hE (b.2.1+((H.flatten.length:Nat):Int)) i tag cms fds))/\sL r (hE (b.2.1+((H.flatten.length:Nat):Int)) i tag cms fds)=some (.inl f)
 |[],b,f,h1,_,_,h,hf=>by
  cases h;exact absurd h1 hf
 |l::ls,b,f,h1,h2,h0,h,hf=>by
  have h':=h;unfold sL at h';obtain⟨w,hw,h'⟩:=Vc.pS h';cases w with
  |inr e=>cases h'
  |inl b'=>
   dsimp only at h';have hcons: ∀rest,sL (l::rest) b=sL rest b':=fun rest=>CI hw;have hat:=(aNj hw).1;have hw':=hw;unfold uT at hw';obtain⟨q,hq,hw'⟩:=Vc.pS hw';obtain⟨r,hr,hw'⟩:=Vc.pS hw';obtain⟨b1,b2,b3,b4,b5,b6,b7,b8,b9,b10,b11,b12,b13,b14,GC,b16,b17⟩:=b;dsimp only at h1 h2 h0;subst h1;subst h2;rcases rY hw' with⟨_,hw'⟩ |⟨hz,hw'⟩
   ·cases hw'
   ·have hz':r.1=0:=by simpa using hz
    unfold tT at hr;rcases rY hr with⟨_,hr⟩ |⟨hlen,hr⟩
    ·obtain⟨w,hw2,hr⟩:=Vc.pS hr;cases hr;dsimp only at hw' hz';cases hd:w.2.2.2.2.2.2.2.2.2.2.2.2.2.1 with
     |false=>
      rw[hd,if_neg (by decide)] at hw';cases hw';obtain⟨H,r,i,tag,cms,fds,g1,g2,g3⟩:=aG0 ls _ f rfl rfl (by dsimp only;omega) h' hf;refine⟨l::H,r,i,tag,cms,fds,by rw[g1];rfl,fun rest=> ?_,?_⟩
      ·rw[List.cons_append,hcons,g2,aRS,aRh];congr 2<;>(dsimp only;omega)
      ·rw[aRS,aRh];have e:b2+((l.length+H.flatten.length:Nat):Int)=b2+(l.length:Int)+((H.flatten.length:Nat):Int):=by omega
       dsimp only;rw[e];exact g3
     |true=>
      have hw3:=aOY hw2 hz' hd;rw[hd,if_pos rfl] at hw';rcases rY hw' with⟨_,hw'⟩ |⟨_,hw'⟩
      ·rw[hw3] at hw';cases hw';have e:(([l]:List (List UInt8)).flatten.length:Nat)=l.length:=by simp
       refine⟨[l],ls,b3+1,w.1,w.2.1,w.2.2.1,rfl,fun rest=> ?_,?_⟩
       ·rw[aR4,hcons,e];rfl
       ·rw[e];exact h'
      ·cases hw'
    ·exact(hlen (by simp)).elim
structure aOZ (s:List UInt8) (c:C4) (H:List (List UInt8)) (Ls:List (List (List UInt8))) (tl:List (List UInt8)):Prop where
 lines:LN s=H++(Ls.flatten++tl)
 head: ∃i,∀rest,sL (H++rest) BQ=sL rest (hE ((H.flatten.length:Nat):Int) i c.1 c.2.1 c.2.2.1)
 items:B3 Ls c.2.2.2.1
 tail: ∀l∈tl,GR l
 split:AT s=some (H.flatten,Ls.map List.flatten,tl.flatten,0)
 parse:xR s=some (c.1,c.2.1,c.2.2.1,c.2.2.2.1,0,0)
 ok:vS c=true
theorem WQ (Ls:List (List (List UInt8))):(Ls.map List.flatten).flatten=Ls.flatten.flatten:=List.flatten_flatten.symm
theorem aG1 {NL H tl:List (List UInt8)}{Ls:List (List (List UInt8))}{c:C4}(hW:WL NL) (hN:NL=H++(Ls.flatten++tl)) (hH: ∃i,sL (H++(Ls.flatten++tl)) BQ=sL (Ls.flatten++tl) (hE ((H.flatten.length:Nat):Int) i c.1 c.2.1 c.2.2.1)) (hI:B3 Ls c.2.2.2.1) (ht: ∀l∈tl,GR l) (h6:c.2.2.2.1.Pairwise (fun a b=>a.1≠b.1)) (h4:c.2.2.2.1.length<=1000) (hsm:NL.flatten.length<=4000000000):
  xR NL.flatten=some (c.1,c.2.1,c.2.2.1,c.2.2.2.1,0,0):=by
 obtain⟨i,hH⟩:=hH;obtain⟨ends',e1,e2⟩:=aGX (tag:=c.1) (cms:=c.2.1) (fds:=c.2.2.1) ht hI [] [((H.flatten.length:Nat):Int)] ((H.flatten.length:Nat):Int) i (by simp) (by simpa using h6) (by simpa using h4) (by simp);have hrun:qM (xP (LN NL.flatten)) BQ=some (.inl (ends',c.1,c.2.1,c.2.2.1,[]++c.2.2.2.1,[],[],[],[],[],0,[],false,false,-1)):=by
  rw[VZ hsm,aFG hW,hN,hH];exact e1
 have hR: ∃en,DE NL.flatten=some (c.1,c.2.1,c.2.2.1,c.2.2.2.1,en,0,0):=by
  unfold DE;rw[QX hsm,aRf];have hrun':qM (xP ((uS NL.flatten).map (·.2))) (([]:List Int),(0:Int),(0:Int),([]:List UInt8),([]:List (List UInt8)),([]:List qB),([]:List qQ),([]:List UInt8),([]:List UInt8),([]:List UInt8),([]:List (List UInt8)),([]:List (List UInt8)),(0:Int),([]:List qB),false,false,(-1:Int))=_:=hrun;rw[hrun'];unfold sN;rw[aRf];dsimp only;rw[if_neg (by simpa using e2),if_neg (by simp)];exact⟨_,rfl⟩
 obtain⟨en,hR⟩:=hR;obtain⟨v,h1,h2,_⟩:=VX hsm;unfold K6 at h2;rw[hR,aRf] at h2;rw[h1,<-h2]
theorem aG2 {s:List UInt8}(hsm:s.length<=4000000000) (hs9:s.length+1<=4000000000):(∃c H Ls tl,aOZ s c H Ls tl)\/∃(e:Int) (w:List UInt8×List (List UInt8)×List qB×List qQ×Int×Int),e≠0/\AT s=some ([],[],[],e)/\xR s=some w/\w.2.2.2.2.2=e:=by
 obtain⟨v,h1,_,_,_,_,h2⟩:=VW hsm;obtain⟨w,q1,q2,q3⟩:=aOK hsm;obtain⟨v',g1',g4',_⟩:=aGk hsm;rw[h1] at g1';cases g1';obtain⟨u,u1,u2,_⟩:=VX hsm;have hw:w=(v.1,v.2.1,v.2.2.1,v.2.2.2.1,v.2.2.2.2.2.1,v.2.2.2.2.2.2):=by
  rw[q1] at u1;cases u1;unfold K6 at u2;rw[h1,aRf] at u2;exact(aRl u2).symm
 rcases h2 with⟨e1,_,_,_,_,p1,p2⟩ |⟨e1,e0,⟨l,g1,g2,g3,g4⟩,e5,r,p1,_,_,_,_,q⟩
 ·right;refine⟨v.2.2.2.2.2.2,w,e1,?_,q1,by rw[hw]⟩;unfold AT;rw[p1,if_neg (by simp),p2,aRf,if_pos (by simpa using e1)]
 ·left;rw[g1,aSq] at e5;have hq:r.2.2.2.2.2.1=l.map (fun n:Nat=>(n:Int)):=by rw[q,g1]
  have hS:=aGU hsm g2 g3 g4 (by omega) p1 hq;have h1':=h1;unfold DE at h1';rw[QX hsm,aRf] at h1';obtain⟨z,hz,h1'⟩:=Vc.vC h1';have hz':sL (LN s) BQ=some z:=by rw[<-VZ hsm];exact hz
  cases z with
  |inr e=>
   cases h1';exact absurd e1 (a7E _ _ _ hz').1
  |inl f=>
   dsimp only at h1';rcases rY h1' with⟨hl,h1'⟩ |⟨hl,h1'⟩
   ·cases h1';exact absurd e1 (by simp)
   ·have hne:f.1≠[]:=fun e=>hl (by simp [e]);rcases rY h1' with⟨_,h1'⟩ |⟨ho,h1'⟩
    ·cases h1';exact absurd e1 (by simp)
    ·obtain⟨H,r',i,tag,cms,fds,k1,k2,k3⟩:=aG0 (LN s) BQ f rfl rfl (aSi _) hz' hne;have hH0:BQ.2.1+((H.flatten.length:Nat):Int)=((H.flatten.length:Nat):Int):=Int.zero_add _;rw[hH0] at k2 k3;obtain⟨Ls,ys,tl,m1,m2,m3,⟨es',m4,m5⟩,m6,m7,m8,m9⟩:=WP r' [] [((H.flatten.length:Nat):Int)] ((H.flatten.length:Nat):Int) i [] b7 (-1) f (by simp) (by simp) .nil (fun _ x hx=>by cases hx) k3 (by simpa using ho);have hv:=aRl h1';rw[List.nil_append] at m1 m9;have hlines:LN s=H++(Ls.flatten++tl):=by rw[k1,m1]
     have hsf:s=H.flatten++((Ls.map List.flatten).flatten++tl.flatten):=by
      have:=(VY s.length s (Nat.le_refl _)).2;rw[<-this,hlines,List.flatten_append,List.flatten_append,WQ]
     have hlf:l=H.flatten.length::wT H.flatten.length (Ls.map List.flatten):=by
      have e9:v.2.2.2.2.1=(H.flatten.length::wT H.flatten.length (Ls.map List.flatten)).map (fun n:Nat=>(n:Int)):=by
       rw[<-hv];show f.1=_;rw[m4,m5];simp
      rw[g1] at e9;exact(List.map_inj_right (f:=fun n:Nat=>(n:Int)) (fun a b hab=>by
       have hab':(a:Int)=(b:Int):=hab;omega)).1 e9
     rw[hlf,aGg hsf,aGh hsf,aGi hsf] at hS;have hok:=q2 (by rw[hw];exact e1);have t1:v.1=tag:=by rw[<-hv];exact m6
     have t2:v.2.1=cms:=by rw[<-hv];exact m7
     have t3:v.2.2.1=fds:=by rw[<-hv];exact m8
     have t4:v.2.2.2.1=ys:=by rw[<-hv];exact m9
     refine⟨(tag,(cms,(fds,(ys,())))),H,Ls,tl,hlines,⟨i,k2⟩,m2,m3,hS,?_,?_⟩
     ·rw[q1,hw,e1,e0,t1,t2,t3,t4]
     ·rw[hw,t1,t2,t3,t4] at hok;exact hok
theorem aO0 {Ls:List (List (List UInt8))}{L:List (List UInt8)}: ∀(k:Nat),(Ls.set k L).map List.flatten=(Ls.map List.flatten).set k L.flatten:=by
 induction Ls with
 |nil=>intro k;rfl
 |cons x Ls ih=>
  intro k;cases k with
  |zero=>rfl
  |succ k=>rw[List.set_cons_succ,aR2,ih,aR2,List.set_cons_succ]
theorem aO1 {x:rX}(hok:wF x=true): ∃L,NS L x/\L.flatten=uN x/\∀y∈L,CH y:=by
 have hok1:vS (([120]:List UInt8),(([]:List (List UInt8)),(([]:List qB),(([x]:List qQ),()))))=true:=WI (by kernel_rfl) (by kernel_rfl) (by kernel_rfl) (aGZ hok);have hi:=a7L hok;have hh:=a7M hok1;have hlen:(A5 (([120]:List UInt8),(([]:List (List UInt8)),(([]:List qB),(([x]:List qQ),()))))).length<=3200000:=by
  unfold A5 zP;simp only[aR2,List.map_nil,aRS,List.flatten_nil,List.append_nil,aRh];omega
 have hsp:=aOM hok1;rcases aG2 (by omega) (show (A5 (([120]:List UInt8),(([]:List (List UInt8)),(([]:List qB),(([x]:List qQ),()))))).length+1<=4000000000 by omega) with⟨c,H,Ls,tl,hp⟩ |⟨e,w,he,g1,_⟩
 ·obtain⟨tag,cms,fds,es,⟨⟩⟩:=c;obtain⟨p1,p2,p3,p4,p5,p6,p7⟩:=hp;dsimp only at p3 p6;rw[aOJ hok1] at p6;simp only[aRg,aRI] at p6;obtain⟨rfl,rfl,rfl,rfl,_⟩:=p6;rw[hsp] at p5;simp only[aRg,aRI,aR2,List.map_nil] at p5;obtain⟨_,q2,_⟩:=p5;cases p3 with
  |cons h hs=>
   rename_i L Ls;rw[aR2,aR7] at q2;refine⟨L,h,q2.1.symm,fun y hy=> ?_⟩;have hm:y∈LN (A5 (([120]:List UInt8),(([]:List (List UInt8)),(([]:List qB),(([x]:List qQ),()))))):=by
    rw[p1,aRS];simp [hy]
   rw[aGS hok1] at hm;unfold KT at hm;rcases aRO.1 hm with hm|hm
   ·exact a7J (EW hok1).2.2.1 y hm
   ·obtain⟨z,hz,hm⟩:=List.mem_flatten.1 hm;obtain⟨x',hx',rfl⟩:=List.mem_map.1 hz;have:x'=x:=by simpa using hx'
    rw[this] at hm;exact aGP hok y hm
 ·rw[hsp] at g1;simp only[aRg,aRI] at g1;exact absurd g1.2.2.2.symm he
theorem aO2 (s:List UInt8) {a:Int}(h0:0<=a) (h1:a<65536) {x:rX}(hx:a7m x):K9 s a x=some true:=by
 unfold K9;rw[aOb,aRf,if_neg (by decide)];obtain⟨b,hb,hbe,hbf⟩:=aNv x hx;rw[hb,hbe,if_pos wR];by_cases hA:((decide ((4000:Int)<(s.length:Int)))||(!b))=true
 ·rw[hA,if_pos (fun h=>absurd h (by decide)),if_pos (by rw[Bool.true_or])]
 ·rw[aSc] at hA;rw[hA];simp only[aSo,aRU,aSC] at hA;have hw:=hbf hA.2;obtain⟨hv,hve⟩:=aNs x hw.fitP;rw[hv,hve,if_pos wR,Bool.false_or];by_cases hok:wF x=true
  ·rw[if_neg (by rw[hok];decide)];have hs4:s.length<=4000:=by have:=hA.1;omega
   rcases aG2 (s:=s) (by omega) (by omega) with⟨c,H,Ls,tl,hp⟩ |⟨e,w,he,g1,g2,g3⟩
   ·obtain⟨tag,cms,fds,es,⟨⟩⟩:=c;obtain⟨p1,p2,p3,p4,p5,p6,p7⟩:=hp;have p7:vS (tag,(cms,(fds,(es,()))))=true:=p7;have hc:=EW p7;dsimp only at p2 p3 p6 hc;have hE:GL es:=aOU p7;have hw2:=aGe p7;have hlen:=p3.len;have hes:=hE.len;have hWL:=(VY s.length s (Nat.le_refl _)).1;have hfl:=(VY s.length s (Nat.le_refl _)).2;rw[p1] at hWL hfl;have hsum:=aRN List.length hfl;simp only[List.flatten_append,aRh] at hsum;have hff:=aRN List.length (WQ Ls);rw[p5,aRf,p6,aRf];dsimp only;rw[if_neg (by simp),aGt hw2,if_pos p7,aRf];have hok1:vS (([120]:List UInt8),(([]:List (List UInt8)),(([]:List qB),(([x]:List qQ),()))))=true:=WI (by kernel_rfl) (by kernel_rfl) (by kernel_rfl) (aGZ hok);rw[aGt (aGe hok1),if_pos hok1,aRf];dsimp only;rw[if_neg (by simp [hlen])];have hH:=a7M p7;have hB1:(zP (wU (tag,(cms,(fds,(es,()))))) (Ls.map List.flatten) []).length<=4000000000:=by
     unfold zP;simp only[aRh,aRs];omega
    rw[aFY (wU (tag,(cms,(fds,(es,())))),(Ls.map List.flatten,(([]:List UInt8),()))) (by show (Ls.map List.flatten).length<=_;rw[aSq];omega) (by exact aSe hB1 (by decide)),aRf];dsimp only;obtain⟨_,w2,_⟩:=WL.parts hWL;obtain⟨w3,_,_⟩:=WL.parts w2;have hN1:zP (wU (tag,(cms,(fds,(es,()))))) (Ls.map List.flatten) []=(DJ (tag,(cms,(fds,(es,()))))++(Ls.flatten++[])).flatten:=by
     unfold zP;rw[List.append_nil,List.append_nil,List.flatten_append,WO,WQ]
    have hP1:=aG1 (NL:=DJ (tag,(cms,(fds,(es,()))))++(Ls.flatten++[])) (c:=(tag,(cms,(fds,(es,()))))) (by rw[List.append_nil];exact NE w3 (a7J hc.2.2.1)) rfl (by
     obtain⟨i,hi⟩:=aGI (c:=(tag,(cms,(fds,(es,()))))) (rest:=Ls.flatten++[]) hc.1 hc.2.1 hc.2.2.1;exact⟨i,by rw[WO];exact hi⟩) p3 (fun l hl=>by cases hl) hE.pw hE.len (by rw[<-hN1];exact hB1)
    rw[hN1,hP1,aRf];dsimp only;obtain⟨q1,q2⟩:=aGf p7;dsimp only at q2;rw[q1,if_pos wR,q2,if_neg (by simp)];by_cases hz:(decide (((Ls.map List.flatten).length:Int)=(0:Int)))=true
    ·rw[if_pos hz]
    ·rw[if_neg hz];have hml:(Ls.map List.flatten).length=Ls.length:=aSq ..;have hz':0<(Ls.map List.flatten).length:=by simp only[aRk] at hz;omega
     obtain⟨k,hk,hke⟩:=aOV h0 h1 hz';rw[if_pos (show ((Ls.map List.flatten).length:Int)≠0 by omega),VS _ _ (show es.length<=5000 by omega),aRf,hke];dsimp only;by_cases hf:((IF es x.1).2&&(!decide ((IF es x.1).1=(k:Int))))=true
     ·rw[if_pos hf]
     ·rw[if_neg hf];have hfe: ∀(j:Nat) (hj:j<es.length),j≠k->es[j].1≠x.1:=aOS hE.pw (fun h=>by
       rw[h] at hf;simpa using hf)
      have hE2:=aOT hE hok hfe;obtain⟨L,hL1,hL2,hL3⟩:=aO1 hok;have hset:=p3.set hL1 k;have hfs:=aOW (ts:=Ls.map List.flatten) (x:=uN x) k;have hil:=a7L hok;have hB2:(zP H.flatten ((Ls.map List.flatten).set k (uN x)) tl.flatten).length<=4000000000:=by
       unfold zP;simp only[aRh];omega
      rw[List.nil_append,List.nil_append,aRY,if_pos (by omega),if_pos (by simp),if_pos (by omega),if_pos (by omega),if_pos (by omega)];have hn:qD .str (List.map uN [x]) (0:Int)=uN x:=rfl;rw[hn,aFY (H.flatten,((Ls.map List.flatten).set k (uN x),(tl.flatten,()))) (by show ((Ls.map List.flatten).set k (uN x)).length<=_;rw[List.length_set];omega) (by exact aSe hB2 (by decide)),aRf];dsimp only;have hN2:zP H.flatten ((Ls.map List.flatten).set k (uN x)) tl.flatten=(H++((Ls.set k L).flatten++tl)).flatten:=by
       unfold zP;rw[<-hL2,<-aO0,List.flatten_append,List.flatten_append,WQ]
      have hP2:=aG1 (NL:=H++((Ls.set k L).flatten++tl)) (c:=(tag,(cms,(fds,(es.set k x,()))))) (WL.set (by omega) p3.ne hL3 hWL) rfl (by
       obtain⟨i,hi⟩:=p2;exact⟨i,hi _⟩) hset p4 hE2.pw hE2.len (by rw[<-hN2];exact hB2)
      rw[hN2,hP2,aRf];dsimp only;have p8:vS (tag,(cms,(fds,(es.set k x,()))))=true:=WI hc.1 hc.2.1 hc.2.2.1 hE2;obtain⟨q3,q4⟩:=aGf p8;dsimp only at q4;rw[if_pos (by simp),q3,if_pos wR,q4];rfl
   ·rw[g1,aRf,g2,aRf];dsimp only;rw[g3,if_pos (by simp [he])];simp
  ·rw[aSc] at hok;rw[if_pos (by rw[hok];decide)]
end Go.Proofs.YtbbpilohihldiaaGreatDoor
namespace Go.Proofs.YtbbpilohihldiaaGreatDoor
open Go.ChangeShapes Go.WideShapes Go.ChangeAt Go.RowKit
section
variable {H:Type}{enc:TypeId×Value->H}{P:Program}
theorem aO3 (hl:laidOutB P=true) {W W':World}(hb:Below W.heap.size W W'):
  ∀{ts:List TypeId}{vs:List Value}{ds:List (DataW H)}{ps:List MemPlace},(∀t∈ts,P.readableRec t=true/\t<P.types.size)->
  DataW.TrodAll enc P W 0 (fun _=>true) true ts vs ds ps->(∀x∈ps,x.block<W.heap.size)->
  DataW.TrodAll enc P W' 0 (fun b=>decide (b<W.heap.size)) true ts vs ds ps:=by
 intro ts
 induction ts with
 |nil=>
  intro vs ds ps _ h _;obtain⟨rfl,rfl,rfl⟩:=trodAll_nil h;exact trodAll_mk0
 |cons t ts ih=>
  intro vs ds ps hr h hlt;obtain⟨v,vs',d,ds',p,q,rfl,rfl,rfl,h0,r0⟩:=trodAll_cons h;exact trodAll_cons_mk (Below.trod hl (hr t (by simp)).1 (hr t (by simp)).2 h0 hb (fun x hx=>hlt x (by simp [hx]))) (ih (fun t' ht'=>hr t' (by simp [ht'])) r0 (fun x hx=>hlt x (by simp [hx])))
theorem aO4 {f:Func}{s:ChangeSpec}{W W':World}{args:Array Value}{ds gs:List (DataW H)}{before:List MemPlace}{tb:TypeId}
  (hl:laidOutB P=true) (hr: ∀t∈f.params.toList,P.readableRec t=true/\t<P.types.size)
  (hW:DataW.Whole enc P f.params.toList s.vars false W args.toList ds gs before) (hv:s.vars=[])
  (hfn:s.fn H ds={results:=[.lit (.bool true)],args:=ds}) (hrt:f.resultTypes= #[tb]) (htb:P.underlying tb=some .bool)
  (hb:Below W.heap.size W W'):s.post enc P f false true false false W args (.bool true) W':=by
 have hW':=hW;obtain⟨p,q,hA,hV,rfl,hfz,hnd⟩:=hW;rw[hv] at hV;obtain⟨rfl,rfl⟩:=trodVars_none hV;have hlt: ∀x∈p,x.block<W.heap.size:=fun x hx=>by simpa using hW'.lt x (by simp [hx])
 refine⟨ds,[],p++[],[],p,[],hW',?_,?_,?_,hb.frame _,fun h=>by cases h⟩
 ·rw[List.append_nil,hfn,hrt];exact trodAll_mk1 (shut_bool htb true)
 ·rw[List.append_nil,hfn];exact aO3 hl hb hr hA hlt
 ·rw[hv,List.append_nil,hfn];rfl
end
end Go.Proofs.YtbbpilohihldiaaGreatDoor
