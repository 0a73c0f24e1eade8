/- PropsWhole returns true for every body (the pieces of a body together are the body; a printed catalog falls into its pieces): the tied card of the statement, over the row's statement. No condition. -/
/- Packed by a program of mine (wip/tools/pack.py): the same texts with short names and few blanks. -/
import Derived.Deep.CondSized
import Derived.Deep.DeepHandedRow
import Derived.Deep.DeepWitnessRowRef
import Derived.KernelRfl
import Derived.Lib.LaidIn
import Derived.Lib.LaidTab
import Derived.Lib.LaidU8T
import Derived.OpenShut
import Derived.ProofKit
import Derived.SevenTiedAt
import Derived.SizedLaws
import Derived.Sort.Walk0
import Derived.Test.YtbbpilohihldiaaGreatDoorCards
import Derived.Test.YtbbpilohihldiaaGreatDoorRows
import Derived.Test.YtbbpilohihldiaaGreatDoorTie
import Derived.WalkKit
import Derived.Test.YtbbpilohihldiaaGreatDoorR03
set_option linter.unusedVariables false
set_option linter.unusedSimpArgs false
set_option linter.unusedSectionVars false
set_option maxRecDepth 100000
set_option maxHeartbeats 4000000
namespace Go.Proofs.YtbbpilohihldiaaGreatDoor
open Vc
abbrev PS:=(List UInt8)×(List (List UInt8))×(List pP)×(List rC)×Bool×(List Int)×(List (List UInt8))×(List UInt8)×(List UInt8)×(List UInt8)×(List (List UInt8))×Int×(List pP)×Int×(List ((List UInt8)×Bool))×(List (Int×Bool))×(List ((List UInt8)×Bool))×(List ((List UInt8)×Bool))×(List (List UInt8))
def yQ (tag:List UInt8) (cms:List (List UInt8)) (fds:List qO) (es:List rC) (inside:Bool) (ends:List Int) (cm:List (List UInt8)) (src:List UInt8) (st:Int) (fd:List qO) (op:Int) (ids:List (List UInt8×Bool)) (once:List (Int×Bool)) (fm dm:List (List UInt8×Bool)) (fl:List (List UInt8)):PS:=
  (tag,cms,fds,es,inside,ends,cm,[],src,[],[],st,fd,op,ids,once,fm,dm,fl)
abbrev RS:=(List Int)×Int×Int×(List UInt8)×(List (List UInt8))×(List pP)×(List rC)×(List UInt8)×(List UInt8)×(List UInt8)×(List (List UInt8))×(List (List UInt8))×Int×(List pP)×Bool×Bool×Int
noncomputable def EG (it:Int×List UInt8) (b:PS):Option (Int×PS):=
 (AV it.2 ([10]:List UInt8)).bind fun r1=>
 (zH (Lib.trimLeftS r1 ([32,9]:List UInt8))).bind fun r=>
 if b.2.2.2.2.1=true then
  if pA (it.1+(it.2.length:Int)) then
   (t8 (b.1,(b.2.1,(b.2.2.1,(b.2.2.2.1,())))) b.2.2.2.2.1 (b.2.2.2.2.2.1,()) (r.1,(r.2.1,(r.2.2,()))) it.1 (it.1+(it.2.length:Int)) b.2.2.2.2.2.2.1 b.2.2.2.2.2.2.2.1 b.2.2.2.2.2.2.2.2.1 b.2.2.2.2.2.2.2.2.2.1 b.2.2.2.2.2.2.2.2.2.2.1 (b.2.2.2.2.2.2.2.2.2.2.2.1,(b.2.2.2.2.2.2.2.2.2.2.2.2.1,())) (b.2.2.2.2.2.2.2.2.2.2.2.2.2.1,()) b.2.2.2.2.2.2.2.2.2.2.2.2.2.2.1 b.2.2.2.2.2.2.2.2.2.2.2.2.2.2.2.1 b.2.2.2.2.2.2.2.2.2.2.2.2.2.2.2.2.1 b.2.2.2.2.2.2.2.2.2.2.2.2.2.2.2.2.2.1 b.2.2.2.2.2.2.2.2.2.2.2.2.2.2.2.2.2.2).bind fun r=>
   some ((r.1,b.1,b.2.1,b.2.2.1,r.2.1,b.2.2.2.2.1,r.2.2.1,r.2.2.2.2.1,r.2.2.2.2.2.1,r.2.2.2.2.2.2.1,r.2.2.2.2.2.2.2.1,r.2.2.2.2.2.2.2.2.1,r.2.2.2.2.2.2.2.2.2.1,r.2.2.2.2.2.2.2.2.2.2.1,r.2.2.2.2.2.2.2.2.2.2.2.1,r.2.2.2.1,r.2.2.2.2.2.2.2.2.2.2.2.2.1,r.2.2.2.2.2.2.2.2.2.2.2.2.2.1,r.2.2.2.2.2.2.2.2.2.2.2.2.2.2.1,r.2.2.2.2.2.2.2.2.2.2.2.2.2.2.2))
  else none
 else
  if pA (it.1+(it.2.length:Int)) then
   (sO (b.1,(b.2.1,(b.2.2.1,(b.2.2.2.1,())))) b.2.2.2.2.1 (b.2.2.2.2.2.1,()) (r.1,(r.2.1,(r.2.2,()))) (it.1+(it.2.length:Int)) b.2.2.2.2.2.2.1 b.2.2.2.2.2.2.2.1 b.2.2.2.2.2.2.2.2.1 b.2.2.2.2.2.2.2.2.2.1 b.2.2.2.2.2.2.2.2.2.2.1 (b.2.2.2.2.2.2.2.2.2.2.2.1,(b.2.2.2.2.2.2.2.2.2.2.2.2.1,())) (b.2.2.2.2.2.2.2.2.2.2.2.2.2.1,()) b.2.2.2.2.2.2.2.2.2.2.2.2.2.2.1 b.2.2.2.2.2.2.2.2.2.2.2.2.2.2.2.1 b.2.2.2.2.2.2.2.2.2.2.2.2.2.2.2.2.1 b.2.2.2.2.2.2.2.2.2.2.2.2.2.2.2.2.2.1 b.2.2.2.2.2.2.2.2.2.2.2.2.2.2.2.2.2.2).bind fun r=>
   some ((r.1,r.2.1,r.2.2.1,r.2.2.2.1,b.2.2.2.1,r.2.2.2.2.1,r.2.2.2.2.2.1,r.2.2.2.2.2.2.1,r.2.2.2.2.2.2.2.1,r.2.2.2.2.2.2.2.2.1,r.2.2.2.2.2.2.2.2.2.1,r.2.2.2.2.2.2.2.2.2.2.1,r.2.2.2.2.2.2.2.2.2.2.2.1,r.2.2.2.2.2.2.2.2.2.2.2.2.1,r.2.2.2.2.2.2.2.2.2.2.2.2.2.1,b.2.2.2.2.2.2.2.2.2.2.2.2.2.2.1,r.2.2.2.2.2.2.2.2.2.2.2.2.2.2.1,r.2.2.2.2.2.2.2.2.2.2.2.2.2.2.2.1,r.2.2.2.2.2.2.2.2.2.2.2.2.2.2.2.2.1,r.2.2.2.2.2.2.2.2.2.2.2.2.2.2.2.2.2))
  else none
theorem aBM (it:Int×List UInt8) (b:PS):FT it b=(EG it b).bind fun q=>if (!decide (q.1=(0:Int)))=true then none else some (.inl q.2):=by
  unfold FT EG qM;obtain⟨b1,b2,b3,b4,b5,b6,b7,b8,b9,b10,b11,b12,b13,b14,FY,b16,b17,b18,b19⟩:=b;dsimp only;cases AV it.2 [10] with
  |none=>rfl
  | some r1=>
    rw[aMs,aMs];cases zH (Lib.trimLeftS r1 [32,9]) with
    |none=>rfl
    |some r=>rfl
theorem aBN (it:Int×List UInt8) (b:PS):FU it b=(EG it b).bind fun q=>if (!decide (q.1=(0:Int)))=true then some (.inr (it.1,q.1)) else some (.inl q.2):=by
  unfold FU EG qM;obtain⟨b1,b2,b3,b4,b5,b6,b7,b8,b9,b10,b11,b12,b13,b14,FY,b16,b17,b18,b19⟩:=b;dsimp only;cases AV it.2 [10] with
  |none=>rfl
  | some r1=>
    rw[aMs,aMs];cases zH (Lib.trimLeftS r1 [32,9]) with
    |none=>rfl
    |some r=>rfl
noncomputable def tU (b:RS) (r:Int×List UInt8×List UInt8×Bool):Option (Int×Bool×(List UInt8)×(List (List UInt8))×(List pP)×(List rC)×(List UInt8)×(List UInt8)×(List UInt8)×(List (List UInt8))×(List (List UInt8))×Int×(List pP)×Bool×Bool×Int):=
  match b with
  |(O,Z,_,aA,aB,aC,aD,aE,aF,aG,aH,aI,aJ,aK,aL,aM,aN)=>
       if (decide ((O.length:Int)=(0:Int)))=true then
        (wZ (aA,(aB,(aC,(aD,())))) ((aE,(aF,(aG,(aH,(aI,(aJ,(aK,()))))))),(aL,(aM,(aN,())))) (r.1,(r.2.1,(r.2.2.1,(r.2.2.2,()))))).bind fun aO=>
        some ((aO.2.2.2.2.2.2.2.2.2.2.2.2.2.2,aO.2.2.2.2.2.2.2.2.2.2.2.2.2.1,aO.1,aO.2.1,aO.2.2.1,aD,aO.2.2.2.1,aO.2.2.2.2.1,aO.2.2.2.2.2.1,aO.2.2.2.2.2.2.1,aO.2.2.2.2.2.2.2.1,aO.2.2.2.2.2.2.2.2.1,aO.2.2.2.2.2.2.2.2.2.1,aO.2.2.2.2.2.2.2.2.2.2.1,aO.2.2.2.2.2.2.2.2.2.2.2.1,aO.2.2.2.2.2.2.2.2.2.2.2.2.1))
       else
        if (decide (r.1=(9:Int)))=true then
         (DM (aA,(aB,(aC,(aD,())))) ((aE,(aF,(aG,(aH,(aI,(aJ,(aK,()))))))),(aL,(aM,(aN,())))) (r.1,(r.2.1,(r.2.2.1,(r.2.2.2,()))))).bind fun aP=>
         some ((aP.2,true,aA,aB,aC,aP.1,([]:List UInt8),([]:List UInt8),([]:List UInt8),([]:List (List UInt8)),([]:List (List UInt8)),(0:Int),([]:List pP),false,false,(-1:Int)))
        else
         if (((decide ((2:Int)≤r.1))&&(decide (r.1≤(7:Int))))&&(!decide (r.1=(3:Int))))=true then
          (sX ((aE,(aF,(aG,(aH,(aI,(aJ,(aK,()))))))),(aL,(aM,(aN,())))) (r.1,(r.2.1,(r.2.2.1,(r.2.2.2,()))))).bind fun aQ=>
          if (decide (aN<(0:Int)))=true then
           some ((aQ.2.2.2.2.2.2.2,false,aA,aB,aC,aD,aE,aQ.1,aG,aQ.2.1,aQ.2.2.1,aQ.2.2.2.1,aQ.2.2.2.2.1,aQ.2.2.2.2.2.1,aQ.2.2.2.2.2.2.1,Z))
          else
           some ((aQ.2.2.2.2.2.2.2,false,aA,aB,aC,aD,aE,aQ.1,aG,aQ.2.1,aQ.2.2.1,aQ.2.2.2.1,aQ.2.2.2.2.1,aQ.2.2.2.2.2.1,aQ.2.2.2.2.2.2.1,aN))
         else
          if (decide ((1:Int)<r.1))=true then
           some (((3:Int),false,aA,aB,aC,aD,aE,aF,aG,aH,aI,aJ,aK,aL,aM,aN))
          else
           some (((0:Int),false,aA,aB,aC,aD,aE,aF,aG,aH,aI,aJ,aK,aL,aM,aN))
theorem aBO {ls:List (List UInt8)}{b:RS}{i:Nat}(hi:b.2.2.1=(i:Int)) (hlt:i<ls.length) (h1:i≤4000000000) (h2:pA (b.2.1+(List.length ls[i]:Int))):x4 ls b=(uA ls[i]).bind fun q=>(tU b q).bind fun r=>
     if (!decide (r.1=(0:Int)))=true then
      some (.inr (.inr ((([]:List UInt8),([]:List (List UInt8)),([]:List pP),([]:List rC),([]:List Int),b.2.1,r.1))))
     else
      if r.2.1=true then
       if (b.1.length+1)*8≤140737488355328 then
         some (.inl ((b.1++([(b.2.1+(List.length ls[i]:Int))]:List Int)),(b.2.1+(List.length ls[i]:Int)),((i:Int)+1),r.2.2))
       else none
      else
        some (.inl (b.1,(b.2.1+(List.length ls[i]:Int)),((i:Int)+1),r.2.2)):=by
  obtain⟨b1,b2,b3,b4,b5,b6,b7,b8,b9,b10,b11,b12,b13,b14,FY,b16,b17⟩:=b;dsimp only at hi h2;subst hi;unfold x4 qM;dsimp only;rw[if_pos (tD hlt),if_pos (rW hlt),yK (t:= .str) hlt];cases uA ls[i] with
  |none=>rfl
  | some q=>
    rw[aMs,aMs,if_pos (rW hlt),if_pos h2];unfold tU;dsimp only;refine aM0 (Option.bind _) (funext fun r=> ?_);obtain⟨r1,r2,r3,r4,r5,r6,r7,r8,r9,r10,r11,r12,r13,r14,r15,r16⟩:=r;dsimp only;rw[if_pos (sS h1),if_pos (sS h1)];rfl
structure SI (tag:List UInt8) (cms:List (List UInt8)) (fds:List qO) (es:List rC) (ends:List Int) (cm:List (List UInt8)) (fl:List (List UInt8)) (fd:List qO) (ids:List (List UInt8×Bool)) (once:List (Int×Bool)) (fm dm:List (List UInt8×Bool)) (hs ht:Bool):Prop where
  b:BI cm fl fd once fm dm hs ht
  tg:ends=[]→s9 (.int .i64) .bool once 4= !decide (tag=[])
  id:T9 ids es
  en:es.length≤1000
  ef: ∀y∈es,a35 y
  cf:pJ cms
  ff:pJ fds
section
variable {cm:List (List UInt8)}{fl:List (List UInt8)}{fd:List qO}{once:List (Int×Bool)}{fm dm:List (List UInt8×Bool)}{src a1 a2 q1 q2:List UInt8}{a3:List (List UInt8)}{st op:Int}
theorem aBP {pf:Int}(h:pf=1∨pf=2):t7 cm a1 src a2 a3 (st,(fd,())) (op,()) (pf,(q1,(q2,()))) once fm dm fl=some (0,cm,src,st,fd,once,fm,dm,fl):=by
  unfold t7;rcases h with rfl|rfl<;>simp only[qM,aMs,aMw,Int.reduceEq,↓reduceIte]
theorem aIM:t7 cm a1 src a2 a3 (st,(fd,())) (op,()) (4,(q1,(q2,()))) once fm dm fl=some (if s9 (.int .i64) .bool once 4=true then(9,cm,src,st,fd,once,fm,dm,fl) else(0,cm,src,st,fd,tX (.int .i64) .bool 4 true once,fm,dm,fl)):=by
  unfold t7;simp only[qM,aMs,aMw,Int.reduceEq,↓reduceIte];by_cases h:s9 (.int .i64) .bool once 4=true
  ·rw[if_pos h,if_pos h]
  ·rw[if_neg h,if_neg h]
end
theorem aBQ {v:List UInt8}(h:uB v=true):v≠[]:=by
  rintro rfl;exact absurd h (by decide)
section
variable {tag:List UInt8}{cms:List (List UInt8)}{fds:List qO}{es:List rC}{cm:List (List UInt8)}{fl:List (List UInt8)}{fd:List qO}{ids:List (List UInt8×Bool)}{once:List (Int×Bool)}{fm dm:List (List UInt8×Bool)}{hs ht:Bool}
variable {src:List UInt8}{st op tz:Int}{f:Int}{k v:List UInt8}{bad:Bool}
abbrev RP:=Int×(List UInt8)×(List (List UInt8))×(List pP)×Bool×(List Int)×(List (List UInt8))×(List UInt8)×(List UInt8)×(List UInt8)×(List (List UInt8))×Int×(List pP)×Int×(List (Int×Bool))×(List ((List UInt8)×Bool))×(List ((List UInt8)×Bool))×(List (List UInt8))
abbrev RR:=(List UInt8)×(List (List UInt8))×(List pP)×(List UInt8)×(List UInt8)×(List UInt8)×(List (List UInt8))×(List (List UInt8))×Int×(List pP)×Bool×Bool×Int×Bool×Int
def aIN (es:List rC) (ids:List (List UInt8×Bool)) (tz:Int) (rp:RP) (rr:RR):Prop:=
  ∃ tag' cms' fds' cm' src' st' fd' op' once' fm' dm' fl' hs' ht' dn,rp=(0,tag',cms',fds',dn,(if dn=true then[tz] else[]),cm',[],src',[],[],st',fd',op',once',fm',dm',fl')∧
    rr=(tag',cms',fds',[],src',[],cm',rU fl',st',fd',hs',ht',op',dn,0)∧SI tag' cms' fds' es (if dn=true then[tz] else[]) cm' fl' fd' ids once' fm' dm' hs' ht'
def EH (tag:List UInt8) (cms:List (List UInt8)) (fds:List qO) (es:List rC) (cm:List (List UInt8)) (fl:List (List UInt8)) (fd:List qO) (ids:List (List UInt8×Bool)) (once:List (Int×Bool)) (fm dm:List (List UInt8×Bool)) (hs ht:Bool) (src:List UInt8) (st op tz f:Int) (k v:List UInt8) (bad:Bool):Prop:=
  ∃ rp rr,sO (tag,(cms,(fds,(es,())))) false ([],()) ((rL f k v bad).1,((rL f k v bad).2.1,((rL f k v bad).2.2,()))) tz cm [] src [] [] (st,(fd,())) (op,()) ids once fm dm fl=some rp∧
    wZ (tag,(cms,(fds,(es,())))) (([],(src,([],(cm,(rU fl,(st,(fd,()))))))),(hs,(ht,(op,())))) (f,(k,(v,(bad,()))))=some rr∧
    ((rp.1≠0∧rr.2.2.2.2.2.2.2.2.2.2.2.2.2.2=rp.1)∨aIN es ids tz rp rr)
variable (h:SI tag cms fds es [] cm fl fd ids once fm dm hs ht)
include h
theorem IB (hp:(rL f k v bad).1=0∨(rL f k v bad).1=5∨(rL f k v bad).1=6∨(rL f k v bad).1=7∨(rL f k v bad).1=10) (hr: ∃rr,wZ (tag,(cms,(fds,(es,())))) (([],(src,([],(cm,(rU fl,(st,(fd,()))))))),(hs,(ht,(op,())))) (f,(k,(v,(bad,()))))=some rr∧rr.2.2.2.2.2.2.2.2.2.2.2.2.2.2=3):EH tag cms fds es cm fl fd ids once fm dm hs ht src st op tz f k v bad:=by
  obtain⟨rr,h1,h2⟩:=hr;refine⟨(3,tag,cms,fds,false,[],cm,[],src,[],[],st,fd,op,once,fm,dm,fl),rr,?_,h1,.inl ⟨?_,?_⟩⟩
  · unfold sO
    generalize (rL f k v bad).1=pf at hp;rcases hp with rfl|rfl|rfl|rfl|rfl<;>simp only[qM,aMs,aMw,Int.reduceEq,↓reduceIte]
  · show (3:Int)≠0
    decide
  ·exact h2
theorem aBR (hf:f=0∨f=1):EH tag cms fds es cm fl fd ids once fm dm hs ht src st op tz f k v bad:=by
  unfold EH sO wZ;have h1: ∀{q1 q2:List UInt8},t7 cm [] src [] [] (st,(fd,())) (op,()) (1,(q1,(q2,()))) once fm dm fl=some (0,cm,src,st,fd,once,fm,dm,fl):=aBP (.inl rfl);have h2: ∀{q1 q2:List UInt8},t7 cm [] src [] [] (st,(fd,())) (op,()) (2,(q1,(q2,()))) once fm dm fl=some (0,cm,src,st,fd,once,fm,dm,fl):=aBP (.inr rfl);rcases hf with rfl|rfl
  · rw[show rL 0 k v bad=(1,[],[]) from rfl]
    simp only[qM,aMs,aMw,Int.reduceEq,↓reduceIte,h1];exact⟨_,_,rfl,rfl,.inr ⟨tag,cms,fds,cm,src,st,fd,op,once,fm,dm,fl,hs,ht,false,rfl,rfl,h⟩⟩
  · rw[show rL 1 k v bad=(2,[],[]) from rfl]
    simp only[qM,aMs,aMw,Int.reduceEq,↓reduceIte,h2];exact⟨_,_,rfl,rfl,.inr ⟨tag,cms,fds,cm,src,st,fd,op,once,fm,dm,fl,hs,ht,false,rfl,rfl,h⟩⟩
theorem aBS (hf:f=2∨f=7) (hk:k.length≤4000000000):EH tag cms fds es cm fl fd ids once fm dm hs ht src st op tz f k v bad:=by
  have hA:IA cm fl fd once fm dm hs ht src [] [] [] [] [] st op op f k v bad:=by
    rcases hf with rfl|rfl
    ·exact aBK h.b
    ·exact aBL h.b hk
  have hr: ∀r,sX (([],(src,([],(cm,(rU fl,(st,(fd,()))))))),(hs,(ht,(op,())))) (f,(k,(v,(bad,()))))=some r→wZ (tag,(cms,(fds,(es,())))) (([],(src,([],(cm,(rU fl,(st,(fd,()))))))),(hs,(ht,(op,())))) (f,(k,(v,(bad,()))))=some (tag,cms,fds,[],r.1,[],r.2.1,r.2.2.1,r.2.2.2.1,r.2.2.2.2.1,r.2.2.2.2.2.1,r.2.2.2.2.2.2.1,op,false,r.2.2.2.2.2.2.2):=by
    intro r hr;unfold wZ;rcases hf with rfl|rfl<;>simp only[qM,aMs,aMw,Int.reduceEq,↓reduceIte,hr]
  rcases hA with⟨h0,r,h1,h2⟩ |⟨hp,e,cm',src',st',fd',once',fm',dm',fl',hs',ht',h1,h2,h3,h4⟩
  ·exact IB h (.inl h0) ⟨_,hr r h1,h2⟩
  · refine⟨(e,tag,cms,fds,false,[],cm',[],src',[],[],st',fd',op,once',fm',dm',fl'),_,?_,hr _ h2,?_⟩
    · unfold sO
      dsimp only;rw[h1];rcases hf with rfl|rfl<;>rw[hp]<;>simp only[qM,aMs,aMw,Int.reduceEq,Int.reduceAdd,↓reduceIte]
    · by_cases he:e=0
      · subst he
        exact .inr ⟨tag,cms,fds,cm',src',st',fd',op,once',fm',dm',fl',hs',ht',false,rfl,rfl,⟨h3,fun _=>by rw[h4];exact h.tg rfl,h.id,h.en,h.ef,h.cf,h.ff⟩⟩
      ·exact .inl ⟨he,rfl⟩
theorem aIO (hv:v.length≤4000000000):EH tag cms fds es cm fl fd ids once fm dm hs ht src st op tz 3 k v bad:=by
  have hfv:pJ v:=by unfold pJ;omega
  by_cases hb:bad=true∨uB v=false
  · refine IB h (.inl ?_) ?_
    · rcases hb with rfl|hb
      ·rfl
      · cases bad with
        |true=>rfl
        | false=>
          show (if uB v=true then((4:Int),([]:List UInt8),v) else(0,[],[])).1=0;rw[if_neg (by rw[hb];exact aM9)]
    · unfold wZ
      simp only[qM,aMs,aMw,Int.reduceEq,↓reduceIte];rw[SU v hfv,if_pos wE,AO,if_pos (by rcases hb with rfl|hb;rfl;rw[hb];simp)]
      exact⟨_,rfl,rfl⟩
  · have hb1:bad=false:=by cases bad;rfl;exact absurd (.inl rfl) hb
    have hb2:uB v=true:=by cases ht2:uB v;exact absurd (.inr ht2) hb;rfl
    subst hb1
    have hp:rL 3 k v false=(4,[],v):=by
      show (if uB v=true then((4:Int),([]:List UInt8),v) else(0,[],[]))=_;rw[if_pos hb2]
    have htg:=h.tg rfl;have hat: ∀{q1 q2:List UInt8},t7 cm [] src [] [] (st,(fd,())) (op,()) (4,(q1,(q2,()))) once fm dm fl=_:=aIM;unfold EH sO wZ;rw[hp];simp only[qM,aMs,aMw,Int.reduceEq,↓reduceIte,hat];rw[SU v hfv,if_pos wE,AO,if_neg (show¬(false|| !uB v)=true by rw[hb2];decide),htg]
    by_cases ht0:tag=[]
    · rw[aNk ht0]
      simp only[Bool.not_true,Bool.not_false,aNl,↓reduceIte,aMs];refine⟨_,_,rfl,rfl,.inr ⟨v,cms,fds,cm,src,st,fd,op,_,fm,dm,fl,hs,ht,false,rfl,rfl,⟨⟨h.b.c,h.b.f,h.b.d,?_,?_,h.b.g1,h.b.g1t,h.b.g1n,h.b.g2,h.b.g2t,h.b.g2n⟩,fun _=> ?_,h.id,h.en,h.ef,h.cf,h.ff⟩⟩⟩
      ·rw[CS,if_neg (by decide)];exact h.b.o5
      ·rw[CS,if_neg (by decide)];exact h.b.o6
      · rw[CS,if_pos rfl,decide_eq_false (aBQ hb2)]
        rfl
    · rw[decide_eq_false ht0]
      simp only[Bool.not_true,Bool.not_false,aNl,↓reduceIte,aMs];exact⟨_,_,rfl,rfl,.inl ⟨(show (9:Int)≠0 by decide),rfl⟩⟩
theorem aIP:EH tag cms fds es cm fl fd ids once fm dm hs ht src st op tz 8 k v bad:=by
  have htg:=h.tg rfl;unfold EH sO wZ;rw[show rL 8 k v bad=(9,[],[]) from rfl];simp only[qM,aMs,aMw,Int.reduceEq,↓reduceIte];rw[htg];by_cases ht0:tag=[]
  · rw[aNk ht0,if_pos ht0]
    exact⟨_,_,rfl,rfl,.inl ⟨(show (3:Int)≠0 by decide),rfl⟩⟩
  · rw[decide_eq_false ht0,if_neg ht0]
    simp only[Bool.not_false,Bool.not_true,aNl,↓reduceIte,aMF,aMv,List.nil_append];have hc:=h.b.c;have hd:=h.b.d;exact⟨_,_,rfl,rfl,.inr ⟨tag,cm,fd,[],[],0,[],-1,[],[],[],[],false,false,true,rfl,by rw[show rU []=[] from aNp.1 (KW [])],⟨a4m,fun hh=>(by cases hh),h.id,h.en,h.ef,by unfold pJ;omega,by unfold pJ;omega⟩⟩⟩
theorem aIQ (hf0:0≤f) (hf:f≤10) (hk:k.length≤4000000000) (hv:v.length≤4000000000):EH tag cms fds es cm fl fd ids once fm dm hs ht src st op tz f k v bad:=by
  have:f=0∨f=1∨f=2∨f=3∨f=4∨f=5∨f=6∨f=7∨f=8∨f=9∨f=10:=by omega
  have hr:(f=4∨f=5∨f=6∨f=9∨f=10)→∃rr,wZ (tag,(cms,(fds,(es,())))) (([],(src,([],(cm,(rU fl,(st,(fd,()))))))),(hs,(ht,(op,())))) (f,(k,(v,(bad,()))))=some rr∧rr.2.2.2.2.2.2.2.2.2.2.2.2.2.2=3:=by
    intro hh;unfold wZ;rcases hh with rfl|rfl|rfl|rfl|rfl<;>simp only[qM,aMs,aMw,Int.reduceEq,↓reduceIte]<;>exact⟨_,rfl,rfl⟩
  rcases this with rfl|rfl|rfl|rfl|rfl|rfl|rfl|rfl|rfl|rfl|rfl
  ·exact aBR h (.inl rfl)
  ·exact aBR h (.inr rfl)
  ·exact aBS h (.inl rfl) hk
  ·exact aIO h hv
  · refine IB h ?_ (hr (.inl rfl))
    cases bad
    ·exact .inr (.inl rfl)
    ·exact .inl rfl
  · refine IB h ?_ (hr (.inr (.inl rfl)))
    cases bad
    · rw[show rL 5 k v false=(if 0≤vD v then((6:Int),([]:List UInt8),v) else(0,[],[])) from rfl]
      split
      ·exact .inr (.inr (.inl rfl))
      ·exact .inl rfl
    ·exact .inl rfl
  · refine IB h ?_ (hr (.inr (.inr (.inl rfl))))
    cases bad
    · rw[show rL 6 k v false=(if s8 v=true then((7:Int),([]:List UInt8),v) else(0,[],[])) from rfl]
      split
      ·exact .inr (.inr (.inr (.inl rfl)))
      ·exact .inl rfl
    ·exact .inl rfl
  ·exact aBS h (.inr rfl) hk
  ·exact aIP h
  · refine IB h ?_ (hr (.inr (.inr (.inr (.inl rfl)))))
    cases bad
    · rw[aBA]
      split
      ·exact .inl rfl
      ·exact .inr (.inr (.inr (.inr rfl)))
    ·exact .inl rfl
  ·exact IB h (.inl (by rw[KZ])) (hr (.inr (.inr (.inr (.inr rfl)))))
end
section
variable {tag:List UInt8}{cms:List (List UInt8)}{fds:List qO}{es:List rC}{ends:List Int}{cm:List (List UInt8)}{fl:List (List UInt8)}{fd:List qO}{ids:List (List UInt8×Bool)}{once:List (Int×Bool)}{fm dm:List (List UInt8×Bool)}{hs ht:Bool}
variable {src:List UInt8}{st op at0 idx tz:Int}{f:Int}{k v:List UInt8}{bad:Bool}
abbrev EP:=Int×(List rC)×(List Int)×(List ((List UInt8)×Bool))×(List (List UInt8))×(List UInt8)×(List UInt8)×(List UInt8)×(List (List UInt8))×Int×(List pP)×Int×(List (Int×Bool))×(List ((List UInt8)×Bool))×(List ((List UInt8)×Bool))×(List (List UInt8))
abbrev ER:=Int×Bool×(List UInt8)×(List (List UInt8))×(List pP)×(List rC)×(List UInt8)×(List UInt8)×(List UInt8)×(List (List UInt8))×(List (List UInt8))×Int×(List pP)×Bool×Bool×Int
def aIR (tag:List UInt8) (cms:List (List UInt8)) (fds:List qO) (ends:List Int) (tz:Int) (rp:EP) (rr:ER):Prop:=
 ∃es' ids' cm' src' st' fd' op' once' fm' dm' fl' hs' ht' dn,rp=(0,es',ends++(if dn=true then[tz] else[]),ids',cm',[],src',[],[],st',fd',op',once',fm',dm',fl')/\
  rr=(0,dn,tag,cms,fds,es',[],src',[],cm',rU fl',st',fd',hs',ht',op')/\SI tag cms fds es' (ends++(if dn=true then[tz] else[])) cm' fl' fd' ids' once' fm' dm' hs' ht'
def IC (tag:List UInt8) (cms:List (List UInt8)) (fds:List qO) (es:List rC) (ends:List Int) (cm:List (List UInt8)) (fl:List (List UInt8)) (fd:List qO) (ids:List (List UInt8×Bool)) (once:List (Int×Bool)) (fm dm:List (List UInt8×Bool)) (hs ht:Bool) (src:List UInt8) (st op at0 idx tz f:Int) (k v:List UInt8) (bad:Bool):Prop:=
 ∃rp rr,t8 (tag,(cms,(fds,(es,())))) true (ends,()) ((rL f k v bad).1,((rL f k v bad).2.1,((rL f k v bad).2.2,()))) at0 tz cm [] src [] [] (st,(fd,())) (op,()) ids once fm dm fl=some rp/\
  tU (ends,at0,idx,tag,cms,fds,es,[],src,[],cm,rU fl,st,fd,hs,ht,op) (f,k,v,bad)=some rr/\((rp.1≠0/\rr.1=rp.1)\/aIR tag cms fds ends tz rp rr)
variable (h:SI tag cms fds es ends cm fl fd ids once fm dm hs ht) (hne:ends≠[])
include h hne
theorem OC (hp:(rL f k v bad).1=0\/(rL f k v bad).1=4\/(rL f k v bad).1=9) (hr: ∃rr,tU (ends,at0,idx,tag,cms,fds,es,[],src,[],cm,rU fl,st,fd,hs,ht,op) (f,k,v,bad)=some rr/\rr.1=3):IC tag cms fds es ends cm fl fd ids once fm dm hs ht src st op at0 idx tz f k v bad:=by
 obtain⟨rr,h1,h2⟩:=hr;refine⟨(3,es,ends,ids,cm,[],src,[],[],st,fd,op,once,fm,dm,fl),rr,?_,h1,.inl ⟨?_,?_⟩⟩
 ·unfold t8;generalize (rL f k v bad).1=pf at hp;rcases hp with rfl|rfl|rfl<;>simp only[qM,aMs,aMw,Int.reduceEq,↓reduceIte]
 ·show (3:Int)≠0;decide
 ·exact h2
omit h in
theorem ID: ¬decide ((ends.length:Int)=0)=true:=by
 have:ends.length≠0:=fun hh=>hne (aNp.1 hh);simp only[aMw];omega
theorem aBT (hf:f=0\/f=1):IC tag cms fds es ends cm fl fd ids once fm dm hs ht src st op at0 idx tz f k v bad:=by
 unfold IC t8 tU;rcases hf with rfl|rfl
 ·rw[show rL 0 k v bad=(1,[],[]) from rfl];dsimp only;rw[if_neg (ID hne)];simp only[qM,aMs,aMw,Int.reduceEq,↓reduceIte];exact⟨_,_,rfl,rfl,.inr ⟨es,ids,cm,src,st,fd,op,once,fm,dm,fl,hs,ht,false,by simp,rfl,by simpa using h⟩⟩
 ·rw[show rL 1 k v bad=(2,[],[]) from rfl];dsimp only;rw[if_neg (ID hne)];simp only[qM,aMs,aMw,Int.reduceEq,↓reduceIte];exact⟨_,_,rfl,rfl,.inr ⟨es,ids,cm,src,st,fd,op,once,fm,dm,fl,hs,ht,false,by simp,rfl,by simpa using h⟩⟩
theorem OD (hf:f=2\/f=4\/f=5\/f=6\/f=7) (hk:k.length<=4000000000) (hv:v.length<=4000000000):IC tag cms fds es ends cm fl fd ids once fm dm hs ht src st op at0 idx tz f k v bad:=by
 have hA: ∀op1,IA cm fl fd once fm dm hs ht src [] [] [] [] [] st op1 op f k v bad:=by
  intro op1;rcases hf with rfl|rfl|rfl|rfl|rfl
  ·exact aBK h.b
  ·exact aIJ h.b
  ·exact aIK h.b
  ·exact aIL h.b hv
  ·exact aBL h.b hk
 have hr: ∀r,sX (([],(src,([],(cm,(rU fl,(st,(fd,()))))))),(hs,(ht,(op,())))) (f,(k,(v,(bad,()))))=some r->tU (ends,at0,idx,tag,cms,fds,es,[],src,[],cm,rU fl,st,fd,hs,ht,op) (f,k,v,bad)=some (r.2.2.2.2.2.2.2,false,tag,cms,fds,es,[],r.1,[],r.2.1,r.2.2.1,r.2.2.2.1,r.2.2.2.2.1,r.2.2.2.2.2.1,r.2.2.2.2.2.2.1,if op<0 then at0 else op):=by
  intro r hr;unfold tU;dsimp only;rw[if_neg (ID hne),if_neg (by rcases hf with rfl|rfl|rfl|rfl|rfl<;>simp),if_pos (by rcases hf with rfl|rfl|rfl|rfl|rfl<;>simp),hr,aMs]
  by_cases ho:op<0
  ·rw[if_pos (by simpa using ho),if_pos ho]
  ·rw[if_neg (by simpa using ho),if_neg ho]
 rcases hA (if op<0 then at0 else op) with⟨h0,r,h1,h2⟩ |⟨hp,e,cm',src',st',fd',once',fm',dm',fl',hs',ht',h1,h2,h3,h4⟩
 ·exact OC h hne (.inl h0) ⟨_,hr r h1,h2⟩
 ·refine⟨(e,es,ends,ids,cm',[],src',[],[],st',fd',(if op<0 then at0 else op),once',fm',dm',fl'),_,?_,hr _ h2,?_⟩
  ·have hpf: ¬((rL f k v bad).1=0\/(rL f k v bad).1=4\/(rL f k v bad).1=9)/\¬((rL f k v bad).1=1\/(rL f k v bad).1=2)/\¬(rL f k v bad).1=10:=by
    rw[hp];rcases hf with rfl|rfl|rfl|rfl|rfl<;>decide
   unfold t8;dsimp only;generalize (rL f k v bad).1=pf at hpf h1;obtain⟨n1,n2,n3⟩:=hpf;simp only[not_or] at n1 n2;simp only[qM,aMs,aMw,n1.1,n1.2.1,n1.2.2,n2.1,n2.2,n3,↓reduceIte];by_cases ho:op<0
   ·rw[if_pos ho] at h1⊢;rw[if_pos ho,h1];rfl
   ·rw[if_neg ho] at h1⊢;rw[if_neg ho,h1];rfl
  ·by_cases he:e=0
   ·subst he;exact .inr ⟨es,ids,cm',src',st',fd',_,once',fm',dm',fl',hs',ht',false,by simp,rfl,⟨h3,fun hh=>absurd (by simpa using hh) hne,h.id,h.en,h.ef,h.cf,h.ff⟩⟩
   ·exact .inl ⟨he,rfl⟩
theorem aIS (hk:k.length<=4000000000) (hen:ends.length<=4000000000):IC tag cms fds es ends cm fl fd ids once fm dm hs ht src st op at0 idx tz 9 k v bad:=by
 by_cases hb:bad=true\/k=[]\/200<k.length
 ·refine OC h hne (.inl ?_) ?_
  ·rcases hb with rfl|hb
   ·rfl
   ·cases bad with
    |true=>rfl
    |false=>
     show (if k=[]\/200<k.length then((0:Int),([]:List UInt8),([]:List UInt8)) else(10,k,v)).1=0;rw[if_pos hb]
  ·unfold tU DM;dsimp only;rw[if_neg (ID hne),if_pos (show decide ((9:Int)=9)=true from rfl),if_pos (by
    rcases hb with rfl|rfl|hb
    ·rfl
    ·simp
    ·simp;exact .inr (by omega))]
   exact⟨_,rfl,rfl⟩
 ·simp only[not_or] at hb;have hb1:bad=false:=by cases bad;rfl;exact absurd rfl hb.1
  subst hb1;have hp:rL 9 k v false=(10,k,v):=by
   show (if k=[]\/200<k.length then((0:Int),([]:List UInt8),([]:List UInt8)) else(10,k,v))=_;rw[if_neg (fun hh=>hh.elim hb.2.1 hb.2.2)]
  unfold IC t8 tU DM;rw[hp];dsimp only;rw[if_neg (ID hne),if_pos (show decide ((9:Int)=9)=true from rfl),if_neg (show¬((false||decide (k=[]))||decide ((200:Int)<(k.length:Int)))=true by simp [hb.2.1]<;>omega),a39 (tag,(cms,(fds,(es,())))) k (by have:=h.en;dsimp only;omega),aMs,a38]
  simp only[qM,aMs,aMw,Int.reduceEq,↓reduceIte];rw[h.id k];have hen1:=h.en;by_cases hd:(es.any fun y=>decide (y.1=k))=true
  ·rw[if_pos hd,if_pos hd,aMs];exact⟨_,_,rfl,rfl,.inl ⟨(show (9:Int)≠0 by decide),rfl⟩⟩
  ·rw[if_neg hd,if_neg hd];by_cases h1000:es.length=1000
   ·rw[if_pos (show ((es.length:Int)=1000) by omega),if_pos (show ((1000:Int)<=(es.length:Int)) by omega),aMs];exact⟨_,_,rfl,rfl,.inl ⟨(show (6:Int)≠0 by decide),rfl⟩⟩
   ·have hf:=h.b.f;have hc:=h.b.c;have hd2:=h.b.d;rw[if_neg (show¬((es.length:Int)=1000) by omega),if_pos (show fl.length<4611686018427387904 by omega),if_pos (by simp only[aMv,aMF];omega),if_pos (by simp only[aMv,aMF];omega),if_neg (show¬((1000:Int)<=(es.length:Int)) by omega),if_pos (by simp only[aMF];omega),if_pos (by simp only[List.nil_append,aMv,aMF];omega),aMs];refine⟨_,_,rfl,rfl,.inr ⟨es++[(k,src,v,cm,rU fl,st,fd,())],tX .str .bool k true ids,[],[],0,[],-1,[],[],[],[],false,false,true,rfl,by rw[show rU []=[] from aNp.1 (KW [])];rfl,⟨a4m,fun hh=>(by simp at hh),aBt h.id _ k rfl,by simp;omega,fun y hy=> ?_,h.cf,h.ff⟩⟩⟩;rcases aM4.1 hy with hy|hy
    ·exact h.ef y hy
    ·rw[aME.1 hy];exact⟨by unfold pJ;dsimp only;omega,by unfold pJ;dsimp only;rw[KW];omega,by unfold pJ;dsimp only;omega⟩
theorem aIT (hf0:0<=f) (hf:f<=10) (hk:k.length<=4000000000) (hv:v.length<=4000000000) (hen:ends.length<=4000000000):IC tag cms fds es ends cm fl fd ids once fm dm hs ht src st op at0 idx tz f k v bad:=by
 have:f=0\/f=1\/f=2\/f=3\/f=4\/f=5\/f=6\/f=7\/f=8\/f=9\/f=10:=by omega
 have hr:(f=3\/f=8\/f=10)->∃rr,tU (ends,at0,idx,tag,cms,fds,es,[],src,[],cm,rU fl,st,fd,hs,ht,op) (f,k,v,bad)=some rr/\rr.1=3:=by
  intro hh;unfold tU;dsimp only;rw[if_neg (ID hne),if_neg (by rcases hh with rfl|rfl|rfl<;>simp),if_neg (by rcases hh with rfl|rfl|rfl<;>simp),if_pos (by rcases hh with rfl|rfl|rfl<;>simp)]
  exact⟨_,rfl,rfl⟩
 rcases this with rfl|rfl|rfl|rfl|rfl|rfl|rfl|rfl|rfl|rfl|rfl
 ·exact aBT h hne (.inl rfl)
 ·exact aBT h hne (.inr rfl)
 ·exact OD h hne (.inl rfl) hk hv
 ·refine OC h hne ?_ (hr (.inl rfl));cases bad
  ·rw[show rL 3 k v false=(if uB v=true then((4:Int),([]:List UInt8),v) else(0,[],[])) from rfl];split
   ·exact .inr (.inl rfl)
   ·exact .inl rfl
  ·exact .inl rfl
 ·exact OD h hne (.inr (.inl rfl)) hk hv
 ·exact OD h hne (.inr (.inr (.inl rfl))) hk hv
 ·exact OD h hne (.inr (.inr (.inr (.inl rfl)))) hk hv
 ·exact OD h hne (.inr (.inr (.inr (.inr rfl)))) hk hv
 ·exact OC h hne (.inr (.inr rfl)) (hr (.inr (.inl rfl)))
 ·exact aIS h hne hk hen
 ·exact OC h hne (.inl (by rw[KZ])) (hr (.inr (.inr rfl)))
end
end Go.Proofs.YtbbpilohihldiaaGreatDoor
namespace Go.Proofs.YtbbpilohihldiaaGreatDoor
open Vc
def wO (ends:List Int) (a i:Int) (tag:List UInt8) (cms:List (List UInt8)) (fds:List qO) (es:List rC) (src:List UInt8) (cm:List (List UInt8)) (fl:List (List UInt8)) (st:Int) (fd:List qO) (hs ht:Bool) (op:Int):RS:=
  (ends,a,i,tag,cms,fds,es,[],src,[],cm,rU fl,st,fd,hs,ht,op)
section
variable {tag:List UInt8}{cms:List (List UInt8)}{fds:List qO}{es:List rC}{ends:List Int}{cm:List (List UInt8)}{fl:List (List UInt8)}{fd:List qO}{ids:List (List UInt8×Bool)}{once:List (Int×Bool)}{fm dm:List (List UInt8×Bool)}{hs ht:Bool}
variable {src:List UInt8}{st op:Int}
def aIU (ends:List Int) (e:Int) (x:PS) (y:RS) (a i tz:Int):Prop:=
  ∃ tag' cms' fds' es' ends' cm' fl' fd' ids' once' fm' dm' hs' ht' src' st' op',x=yQ tag' cms' fds' es' (!decide (ends'=[])) ends' cm' src' st' fd' op' ids' once' fm' dm' fl'∧
    y=wO ends' a i tag' cms' fds' es' src' cm' fl' st' fd' hs' ht' op'∧SI tag' cms' fds' es' ends' cm' fl' fd' ids' once' fm' dm' hs' ht'∧(ends'=ends∨ends'=ends++[tz])
theorem aIV (h:SI tag cms fds es ends cm fl fd ids once fm dm hs ht) (hen:ends.length≤4000000000) {line:List UInt8}(hl:line.length≤4000000000) {a i:Nat}(ha:a≤4000000000) {ls:List (List UInt8)}(hi:i<ls.length) (hli:ls[i]=line) (hi2:i≤4000000000):
    ∃ e x,EG ((a:Int),line) (yQ tag cms fds es (!decide (ends=[])) ends cm src st fd op ids once fm dm fl)=some (e,x)∧
      ((e≠0∧x4 ls (wO ends a i tag cms fds es src cm fl st fd hs ht op)=some (.inr (.inr ([],[],[],[],[],(a:Int),e))))∨
       (e=0∧∃y,x4 ls (wO ends a i tag cms fds es src cm fl st fd hs ht op)=some (.inl y)∧aIU ends e x y ((a:Int)+(line.length:Int)) ((i:Int)+1) ((a:Int)+(line.length:Int)))):=by
  obtain⟨f,k,v,bad,h1,h2,h3,h4,h5,h6⟩:=aIF hl;have hto:pA ((a:Int)+(line.length:Int)):=by unfold pA;omega
  rw[aBO (b:=wO ends a i tag cms fds es src cm fl st fd hs ht op) (i:=i) rfl hi (by omega) (by rw[hli];exact hto),hli,h1,aMs];have hfl:pJ line:=by unfold pJ;omega
  have h2':zH (Lib.trimLeftS (uC 10 line) [32,9])=some (rL f k v bad):=h2;by_cases hne:ends=[]
  · subst hne
    obtain⟨rp,rr,g1,g2,g3⟩:=aIQ (src:=src) (st:=st) (op:=op) (tz:=(a:Int)+(line.length:Int)) (bad:=bad) h h5 h6 h3 h4
    have hc:EG ((a:Int),line) (yQ tag cms fds es (!decide (([]:List Int)=[])) [] cm src st fd op ids once fm dm fl)=some (rp.1,rp.2.1,rp.2.2.1,rp.2.2.2.1,es,rp.2.2.2.2.1,rp.2.2.2.2.2.1,rp.2.2.2.2.2.2.1,rp.2.2.2.2.2.2.2.1,rp.2.2.2.2.2.2.2.2.1,rp.2.2.2.2.2.2.2.2.2.1,rp.2.2.2.2.2.2.2.2.2.2.1,rp.2.2.2.2.2.2.2.2.2.2.2.1,rp.2.2.2.2.2.2.2.2.2.2.2.2.1,rp.2.2.2.2.2.2.2.2.2.2.2.2.2.1,ids,rp.2.2.2.2.2.2.2.2.2.2.2.2.2.2.1,rp.2.2.2.2.2.2.2.2.2.2.2.2.2.2.2.1,rp.2.2.2.2.2.2.2.2.2.2.2.2.2.2.2.2.1,rp.2.2.2.2.2.2.2.2.2.2.2.2.2.2.2.2.2):=by
      unfold EG yQ;dsimp only;rw[a4f hfl,aMs,h2',aMs,if_neg (by simp),if_pos hto];rw[show (!decide (([]:List Int)=[]))=false by simp,g1,aMs]
    have hr:tU (wO [] a i tag cms fds es src cm fl st fd hs ht op) (f,k,v,bad)=some (rr.2.2.2.2.2.2.2.2.2.2.2.2.2.2,rr.2.2.2.2.2.2.2.2.2.2.2.2.2.1,rr.1,rr.2.1,rr.2.2.1,es,rr.2.2.2.1,rr.2.2.2.2.1,rr.2.2.2.2.2.1,rr.2.2.2.2.2.2.1,rr.2.2.2.2.2.2.2.1,rr.2.2.2.2.2.2.2.2.1,rr.2.2.2.2.2.2.2.2.2.1,rr.2.2.2.2.2.2.2.2.2.2.1,rr.2.2.2.2.2.2.2.2.2.2.2.1,rr.2.2.2.2.2.2.2.2.2.2.2.2.1):=by
      unfold tU wO;dsimp only;rw[if_pos (by simp),g2,aMs]
    refine⟨_,_,hc,?_⟩;rw[hr,aMs];rcases g3 with⟨e1,e2⟩ |⟨tag',cms',fds',cm',src',st',fd',op',once',fm',dm',fl',hs',ht',dn,rfl,rfl,hS⟩
    · dsimp only
      rw[e2,if_pos (by simpa using e1)];exact .inl ⟨e1,rfl⟩
    · dsimp only
      rw[if_neg (show¬(!decide ((0:Int)=0))=true by decide)];cases dn with
      | true=>
        rw[if_pos rfl,if_pos (by show ((wO [] (a:Int) (i:Int) tag cms fds es src cm fl st fd hs ht op).1.length+1)*8≤_;unfold wO;simp)];exact .inr ⟨rfl,_,rfl,tag',cms',fds',es,[(a:Int)+(line.length:Int)],cm',fl',fd',ids,once',fm',dm',hs',ht',src',st',op',rfl,rfl,hS,.inr rfl⟩
      | false=>
        rw[if_neg aM9];exact .inr ⟨rfl,_,rfl,tag',cms',fds',es,[],cm',fl',fd',ids,once',fm',dm',hs',ht',src',st',op',rfl,rfl,hS,.inl rfl⟩
  · obtain⟨rp,rr,g1,g2,g3⟩:=aIT (src:=src) (st:=st) (op:=op) (at0:=(a:Int)) (idx:=(i:Int)) (tz:=(a:Int)+(line.length:Int)) (bad:=bad) h hne h5 h6 h3 h4 hen
    have hin:(!decide (ends=[]))=true:=by simpa using hne
    have hc:EG ((a:Int),line) (yQ tag cms fds es (!decide (ends=[])) ends cm src st fd op ids once fm dm fl)=some (rp.1,tag,cms,fds,rp.2.1,true,rp.2.2.1,rp.2.2.2.2.1,rp.2.2.2.2.2.1,rp.2.2.2.2.2.2.1,rp.2.2.2.2.2.2.2.1,rp.2.2.2.2.2.2.2.2.1,rp.2.2.2.2.2.2.2.2.2.1,rp.2.2.2.2.2.2.2.2.2.2.1,rp.2.2.2.2.2.2.2.2.2.2.2.1,rp.2.2.2.1,rp.2.2.2.2.2.2.2.2.2.2.2.2.1,rp.2.2.2.2.2.2.2.2.2.2.2.2.2.1,rp.2.2.2.2.2.2.2.2.2.2.2.2.2.2.1,rp.2.2.2.2.2.2.2.2.2.2.2.2.2.2.2):=by
      rw[hin];unfold EG yQ;dsimp only;rw[a4f hfl,aMs,h2',aMs,if_pos rfl,if_pos hto,g1,aMs]
    refine⟨_,_,hc,?_⟩;have g2':tU (wO ends a i tag cms fds es src cm fl st fd hs ht op) (f,k,v,bad)=some rr:=g2;rw[g2',aMs];rcases g3 with⟨e1,e2⟩ |⟨es',ids',cm',src',st',fd',op',once',fm',dm',fl',hs',ht',dn,rfl,rfl,hS⟩
    · rw[e2,if_pos (by simpa using e1)]
      exact .inl ⟨e1,rfl⟩
    · dsimp only
      rw[if_neg (show¬(!decide ((0:Int)=0))=true by decide)];cases dn with
      | true=>
        rw[if_pos rfl,if_pos (by show ((wO ends (a:Int) (i:Int) tag cms fds es src cm fl st fd hs ht op).1.length+1)*8≤_;unfold wO;dsimp only;omega)];exact .inr ⟨rfl,_,rfl,tag,cms,fds,es',ends++[(a:Int)+(line.length:Int)],cm',fl',fd',ids',once',fm',dm',hs',ht',src',st',op',by rw[show (!decide (ends++[(a:Int)+(line.length:Int)]=[]))=true by simp];rfl,rfl,hS,.inr rfl⟩
      | false=>
        rw[if_neg aM9];have he:ends++(if false=true then[(a:Int)+(line.length:Int)] else[])=ends:=by simp
        rw[he] at hS⊢;exact .inr ⟨rfl,_,rfl,tag,cms,fds,es',ends,cm',fl',fd',ids',once',fm',dm',hs',ht',src',st',op',by rw[hin];rfl,rfl,hS,.inl rfl⟩
end
def aBU (s:List UInt8) (ls:List (List UInt8)) (l:List (Int×List UInt8)) (x:PS) (y:RS):Prop:=
  (∃e at1:Int,e≠0∧uT FT l x=none∧uT FU l x=some (.inr (at1,e))∧q6 (x4 ls) y=some (.inr ([],[],[],[],[],at1,e)))∨
  (∃tag' cms' fds' es' ends' cm' fl' fd' ids' once' fm' dm' hs' ht' src' st' op',uT FT l x=some (.inl (yQ tag' cms' fds' es' (!decide (ends'=[])) ends' cm' src' st' fd' op' ids' once' fm' dm' fl'))∧
    uT FU l x=some (.inl (yQ tag' cms' fds' es' (!decide (ends'=[])) ends' cm' src' st' fd' op' ids' once' fm' dm' fl'))∧
    q6 (x4 ls) y=some (.inl (ends',tag',cms',fds',es',[],src',[],cm',rU fl',st',fd',hs',ht',op'))∧SI tag' cms' fds' es' ends' cm' fl' fd' ids' once' fm' dm' hs' ht'∧(ends'=[]∨FZ s.length ends')∧ends'.length≤s.length)
theorem sim {s:List UInt8}(hs0:s.length≤4000000000): ∀(n a i:Nat) {tag:List UInt8}{cms:List (List UInt8)}{fds:List qO}{es:List rC}{ends:List Int}{cm:List (List UInt8)}{fl:List (List UInt8)}{fd:List qO}{ids:List (List UInt8×Bool)}{once:List (Int×Bool)}{fm dm:List (List UInt8×Bool)}{hs ht:Bool}{src:List UInt8}{st op:Int},
    a≤s.length→s.length≤n+a→(tT s).drop i=sF s n a→i≤a→SI tag cms fds es ends cm fl fd ids once fm dm hs ht→(ends=[]∨FZ a ends)→ends.length≤i→
    aBU s ((tT s).map (·.2)) (sF s n a) (yQ tag cms fds es (!decide (ends=[])) ends cm src st fd op ids once fm dm fl) (wO ends a i tag cms fds es src cm fl st fd hs ht op):=by
  intro n
  induction n with
  | zero=>
    intro a i tag cms fds es ends cm fl fd ids once fm dm hs ht src st op ha hn hd hia h hea hei
    have hlen:(tT s).length≤i:=by
      have:=aM0 List.length hd;rw[aML,show sF s 0 a=[] from rfl,aMF] at this;omega
    have hst:x4 ((tT s).map (·.2)) (wO ends a i tag cms fds es src cm fl st fd hs ht op)=some (.inr (.inl (ends,tag,cms,fds,es,[],src,[],cm,rU fl,st,fd,hs,ht,op))):=by
      unfold x4 wO;dsimp only;rw[if_neg (by simp;omega)]
    refine .inr ⟨tag,cms,fds,es,ends,cm,fl,fd,ids,once,fm,dm,hs,ht,src,st,op,rfl,rfl,uR hst,h,?_,by omega⟩;rcases hea with h1|h1
    ·exact .inl h1
    ·exact .inr (a4a h1 ha)
  | succ n ih=>
    intro a i tag cms fds es ends cm fl fd ids once fm dm hs ht src st op ha hn hd hia h hea hei;by_cases hlt:a<s.length
    · have hto:=XJ hlt
      have hl:sF s (n+1) a=((a:Int),(s.drop a).take (sE s a-a))::sF s n (sE s a):=by rw[sF,if_pos hlt]
      rw[hl] at hd⊢
      have hil:i<(tT s).length:=by
        have:=aM0 List.length hd;rw[aML,aMv] at this;omega
      have hget:(tT s)[i]=((a:Int),(s.drop a).take (sE s a-a)):=by
        have:=aMU hil;rw[hd] at this;exact(List.cons.inj this).1.symm
      have hd2:(tT s).drop (i+1)=sF s n (sE s a):=by
        have:=aMU hil;rw[hd] at this;exact(List.cons.inj this).2.symm
      have hlen:((s.drop a).take (sE s a-a)).length=sE s a-a:=by rw[aMS,aML];omega
      have hi2:i<((tT s).map (·.2)).length:=by rw[aNv];exact hil
      have hli:((tT s).map (·.2))[i]=(s.drop a).take (sE s a-a):=by rw[List.getElem_map,hget]
      obtain⟨e,x,hc,hres⟩:=aIV (src:=src) (st:=st) (op:=op) h (by omega) (line:=(s.drop a).take (sE s a-a)) (by omega) (a:=a) (i:=i) (by omega) hi2 hli (by omega);rcases hres with⟨he,hr⟩ |⟨rfl,y,hr,tag',cms',fds',es',ends',cm',fl',fd',ids',once',fm',dm',hs',ht',src',st',op',rfl,rfl,hS,hE⟩
      · refine .inl ⟨e,(a:Int),he,?_,?_,uR hr⟩
        · unfold uT
          rw[aBM,hc,aMs,if_pos (by simpa using he)];rfl
        · unfold uT
          rw[aBN,hc,aMs,if_pos (by simpa using he)];rfl
      · have hto2:(a:Int)+(((s.drop a).take (sE s a-a)).length:Int)=((sE s a:Nat):Int):=by rw[hlen];omega
        rw[hto2] at hr hE
        have hnext:=ih (sE s a) (i+1) (src:=src') (st:=st') (op:=op') hto.2 (by omega) hd2 (by omega) hS (by
          rcases hE with rfl|rfl
          · rcases hea with h1|h1
            ·exact .inl h1
            ·exact .inr (a4a h1 (by omega))
          · rcases hea with rfl|h1
            ·exact .inr (aIm _)
            ·exact .inr (aIl h1 (by omega))) (by
          rcases hE with rfl|rfl
          ·omega
          ·simp;omega)
        have hr2:q6 (x4 ((tT s).map (·.2))) (wO ends a i tag cms fds es src cm fl st fd hs ht op)=q6 (x4 ((tT s).map (·.2))) (wO ends' (sE s a:Nat) ((i+1:Nat):Int) tag' cms' fds' es' src' cm' fl' st' fd' hs' ht' op'):=BF hr
        have f1:uT FT (((a:Int),(s.drop a).take (sE s a-a))::sF s n (sE s a)) (yQ tag cms fds es (!decide (ends=[])) ends cm src st fd op ids once fm dm fl)=uT FT (sF s n (sE s a)) (yQ tag' cms' fds' es' (!decide (ends'=[])) ends' cm' src' st' fd' op' ids' once' fm' dm' fl'):=by
          rw[uT,aBM,hc,aMs];dsimp only;rw[if_neg (show¬(!decide ((0:Int)=0))=true by decide)];rfl
        have f2:uT FU (((a:Int),(s.drop a).take (sE s a-a))::sF s n (sE s a)) (yQ tag cms fds es (!decide (ends=[])) ends cm src st fd op ids once fm dm fl)=uT FU (sF s n (sE s a)) (yQ tag' cms' fds' es' (!decide (ends'=[])) ends' cm' src' st' fd' op' ids' once' fm' dm' fl'):=by
          rw[uT,aBN,hc,aMs];dsimp only;rw[if_neg (show¬(!decide ((0:Int)=0))=true by decide)];rfl
        unfold aBU at hnext⊢;rw[f1,f2,hr2];exact hnext
    · have hl:sF s (n+1) a=sF s 0 a:=by rw[EF (by omega),EF (by omega)]
      have hlen:(tT s).length≤i:=by
        rw[hl] at hd;have:=aM0 List.length hd;rw[aML,show sF s 0 a=[] from rfl,aMF] at this;omega
      have hst:x4 ((tT s).map (·.2)) (wO ends a i tag cms fds es src cm fl st fd hs ht op)=some (.inr (.inl (ends,tag,cms,fds,es,[],src,[],cm,rU fl,st,fd,hs,ht,op))):=by
        unfold x4 wO;dsimp only;rw[if_neg (by simp;omega)]
      rw[hl];refine .inr ⟨tag,cms,fds,es,ends,cm,fl,fd,ids,once,fm,dm,hs,ht,src,st,op,rfl,rfl,uR hst,h,?_,by omega⟩;rcases hea with h1|h1
      ·exact .inl h1
      ·exact .inr (a4a h1 ha)
theorem TB {s:List UInt8}(hs0:s.length≤4000000000): ∃v,FS s=some v∧pJ v.2.1∧pJ v.2.2.1∧pJ v.2.2.2.1∧(∀y∈v.2.2.2.1,a35 y)∧
    ((v.2.2.2.2.2.2≠0∧v.1=[]∧v.2.1=[]∧v.2.2.1=[]∧v.2.2.2.1=[]∧sH s=none∧E6 s=some (v.2.2.2.2.2.1,v.2.2.2.2.2.2))∨
     (v.2.2.2.2.2.2=0∧v.2.2.2.2.2.1=0∧FZ s.length v.2.2.2.2.1∧v.2.2.2.2.1.length≤s.length∧∃r,sH s=some r∧r.1=v.1∧r.2.1=v.2.1∧r.2.2.1=v.2.2.1∧r.2.2.2.1=v.2.2.2.1∧r.2.2.2.2.2.1=v.2.2.2.2.1)):=by
  have hSI:SI [] [] [] [] [] [] [] [] [] [] [] [] false false:=⟨a4m,fun _=>rfl,fun _=>rfl,by decide,fun _ hh=>by(cases hh),BW,BW⟩;have hsim:=sim hs0 s.length 0 0 (src:=[]) (st:=0) (op:= -1) (aNm _) (by omega) (by rw[aNw];rfl) (Nat.le_refl _) hSI (.inl rfl) (Nat.le_refl _);have hs4:rU []=[]:=aNp.1 (KW [])
  have hx:yQ [] [] [] [] (!decide (([]:List Int)=[])) [] [] [] 0 [] (-1) [] [] [] [] []=(([]:List UInt8),([]:List (List UInt8)),([]:List pP),([]:List rC),false,([]:List Int),([]:List (List UInt8)),([]:List UInt8),([]:List UInt8),([]:List UInt8),([]:List (List UInt8)),(0:Int),([]:List pP),(-1:Int),([]:List ((List UInt8)×Bool)),([]:List (Int×Bool)),([]:List ((List UInt8)×Bool)),([]:List ((List UInt8)×Bool)),([]:List (List UInt8))):=by
    rw[show (!decide (([]:List Int)=[]))=false by simp];rfl
  have hy:wO [] (0:Nat) (0:Nat) [] [] [] [] [] [] [] 0 [] false false (-1)=(([]:List Int),(0:Int),(0:Int),([]:List UInt8),([]:List (List UInt8)),([]:List pP),([]:List rC),([]:List UInt8),([]:List UInt8),([]:List UInt8),([]:List (List UInt8)),([]:List (List UInt8)),(0:Int),([]:List pP),false,false,(-1:Int)):=by
    unfold wO;rw[hs4];rfl
  rw[hx,hy] at hsim;have hlI:sF s s.length 0=tT s:=rfl;rw[hlI] at hsim;unfold FS sH E6;rw[a4l (by omega),aMs,if_pos (by omega),if_pos (by omega)];rcases hsim with⟨e,at1,he,h1,h2,h3⟩ |⟨tag',cms',fds',es',ends',cm',fl',fd',ids',once',fm',dm',hs',ht',src',st',op',h1,h2,h3,h4,h5,h6⟩
  · rw[h1,h2,h3]
    exact⟨_,rfl,BW,BW,BW,fun _ hh=>by(cases hh),.inl ⟨he,rfl,rfl,rfl,rfl,rfl,rfl⟩⟩
  · rw[h1,h2,h3]
    unfold yQ;simp only[sJ,aMs];by_cases hn:ends'=[]
    · rw[if_pos (by rw[hn];rfl),if_pos (by rw[hn];rfl),if_pos (by rw[hn];rfl)]
      exact⟨_,rfl,BW,BW,BW,fun _ hh=>by(cases hh),.inl ⟨show (3:Int)≠0 by decide,rfl,rfl,rfl,rfl,rfl,rfl⟩⟩
    · have hl0: ¬decide ((ends'.length:Int)=0)=true:=ID hn
      have hd:(!(!decide (ends'=[])))=false:=by simpa using hn
      rw[if_neg hl0,hd];simp only[aNl,↓reduceIte];by_cases ho:decide (0≤op')=true
      · simp only[ho,↓reduceIte]
        exact⟨_,rfl,BW,BW,BW,fun _ hh=>by(cases hh),.inl ⟨show (3:Int)≠0 by decide,(by first|rfl|trivial),(by first|rfl|trivial),(by first|rfl|trivial),(by first|rfl|trivial),(by first|rfl|trivial),(by first|rfl|trivial)⟩⟩
      · simp only[ho,aNl,↓reduceIte]
        have hen:=h4.en;exact⟨_,rfl,h4.cf,h4.ff,by unfold pJ;dsimp only;omega,h4.ef,.inr ⟨(by first|rfl|trivial),(by first|rfl|trivial),h5.resolve_left hn,h6,_,rfl,(by first|rfl|trivial),(by first|rfl|trivial),(by first|rfl|trivial),(by first|rfl|trivial),(by first|rfl|trivial)⟩⟩
theorem aBV {s:List UInt8}(hs0:s.length≤4000000000): ∃v,zI s=some v∧NZ s=some v∧pJ v.2.1∧pJ v.2.2.1∧pJ v.2.2.2.1∧∀y∈v.2.2.2.1,a35 y:=by
  obtain⟨v,h1,f1,f2,f3,f4,h⟩:=TB hs0;unfold zI NZ;rw[h1,aMs];refine⟨_,?_,rfl,f1,f2,f3,f4⟩;rcases h with⟨he,v1,v2,v3,v4,p1,p2⟩ |⟨he,ha,_,_,r,p1,q1,q2,q3,q4,_⟩
  ·rw[p1,if_neg (by simp),p2,aMs,if_pos (by simpa using he),v1,v2,v3,v4]
  ·rw[p1,if_pos (show (some r).isSome=true from rfl),aMs,if_neg (show¬(!decide ((0:Int)=0))=true by decide),q1,q2,q3,q4,he,ha]
set_option maxRecDepth 1000000
def LN (s:List UInt8):List (List UInt8):=(tT s).map (·.2)
inductive WL:List (List UInt8)->Prop
 |nil:WL []
 |one {u:List UInt8}(h:u≠[]) (hu:(10:UInt8)∉u):WL [u]
 |cons {u:List UInt8}{l:List (List UInt8)}(hu:(10:UInt8)∉u) (h:WL l):WL ((u++[10])::l)
theorem aBW {s:List UInt8}: ∀(n m i:Nat),s.length<=n+i->s.length<=m+i->sF s n i=sF s m i
 |0,m,i,hn,_=>by rw[EF (by omega),EF (by omega)]
 |n+1,0,i,_,hm=>by rw[EF (by omega),EF (by omega)]
 |n+1,m+1,i,hn,hm=>by
  rw[sF,sF];by_cases h:i<s.length
  ·have:=XJ h;rw[if_pos h,if_pos h,aBW n m (sE s i) (by omega) (by omega)]
  ·rw[if_neg h,if_neg h]
theorem aIX {a s:List UInt8}{i:Nat}:sE (a++s) (a.length+i)=a.length+sE s i:=by
 have hd:(a++s).drop (a.length+i)=s.drop i:=by rw[List.drop_append];simp
 unfold sE;rw[hd,aMu];split
 ·omega
 ·omega
theorem aBX {a s:List UInt8}: ∀(n i:Nat),(sF (a++s) n (a.length+i)).map (·.2)=(sF s n i).map (·.2)
 |0,i=>rfl
 |n+1,i=>by
  have hd:(a++s).drop (a.length+i)=s.drop i:=by rw[List.drop_append];simp
  rw[sF,sF,aIX,hd,aMu];by_cases h:i<s.length
  ·rw[if_pos (by omega),if_pos h,aNt,aNt,aBX n (sE s i)];rw[show a.length+sE s i- (a.length+i)=sE s i-i by omega]
  ·rw[if_neg (by omega),if_neg h]
theorem aBY {u t:List UInt8}(hu:(10:UInt8)∉u):LN (u++[10]++t)=(u++[10])::LN t:=by
 have hlen:(u++[10]++t).length=u.length+1+t.length:=by simp;omega
 have hto:sE (u++[10]++t) 0=u.length+1:=aBC (aNm _) (by omega) (fun j h _ h1 hh=>hu (by
  have h9:(u++[10]++t)[j]=u[j]'(by omega):=by simp [List.getElem_append,show j<u.length by omega,show j<u.length+1 by omega]
  rw[h9] at hh;rw[<-hh];exact aNJ _)) (by simp [List.getElem_append])
 unfold LN tT;rw[hlen,show u.length+1+t.length=(u.length+t.length)+1 by omega,sF,if_pos (by omega),hto,aNt];have h2:=aBX (a:=u++[10]) (s:=t) (u.length+t.length) 0;have h3:(u++[10]:List UInt8).length=u.length+1:=by simp
 rw[aNW,h3] at h2;rw[h2,aBW (u.length+t.length) t.length 0 (by omega) (by omega)];congr 1;rw[aNw,Nat.sub_zero,List.take_left' (by simp)]
theorem aBZ {u:List UInt8}(h:u≠[]) (hu:(10:UInt8)∉u):LN u=[u]:=by
 have hto:sE u 0=u.length:=aBD (fun j hj _ hh=>hu (by rw[<-hh];exact aNJ _));have hpos:0<u.length:=aNN.2 h;unfold LN tT;obtain⟨n,hn⟩: ∃n,u.length=n+1:=⟨u.length-1,by omega⟩;rw[hn,sF,if_pos hpos,hto,EF (Nat.le_refl _)];simp
theorem aIY {l:List (List UInt8)}(h:WL l):LN l.flatten=l:=by
 induction h with
 |nil=>rfl
 |one h hu=>rw[List.flatten_singleton];exact aBZ h hu
 |cons hu _ ih=>rw[aNj,aBY hu,ih]
theorem aIZ: ∀(n:Nat) (s:List UInt8),s.length<=n->WL (LN s)/\(LN s).flatten=s:=by
 intro n
 induction n with
 |zero=>
  intro s h;obtain rfl:=aNp.1 (Nat.le_zero.1 h);exact⟨.nil,rfl⟩
 |succ n ih=>
  intro s h;by_cases h10:(10:UInt8)∈s
  ·obtain⟨u,t,rfl,hu⟩:=List.eq_append_cons_of_mem h10;have he:u++10::t=u++[10]++t:=by simp
   obtain⟨h1,h2⟩:=ih t (by simp at h;omega);rw[he,aBY hu];exact⟨.cons hu h1,by rw[aNj,h2]⟩
  ·by_cases hne:s=[]
   ·subst hne;exact⟨.nil,rfl⟩
   ·rw[aBZ hne h10];exact⟨.one hne h10,by simp⟩
def EI (x:List UInt8):Prop:= ∃u:List UInt8,(10:UInt8)∉u/\x=u++[10]
theorem aB0 {l:List (List UInt8)}(h:WL l): ∀{xs:List (List UInt8)},(∀x∈xs,EI x)->WL (xs++l)
 |[],_=>h
 |x::xs,hx=>by
  obtain⟨u,hu,rfl⟩:=hx x aMO;exact .cons hu (aB0 h (fun y hy=>hx y (aMH _ hy)))
abbrev FR:=(List Int)×(List UInt8)×(List (List UInt8))×(List pP)×(List rC)×(List UInt8)×(List UInt8)×(List UInt8)×(List (List UInt8))×(List (List UInt8))×Int×(List pP)×Bool×Bool×Int
abbrev ER7:=(List UInt8)×(List (List UInt8))×(List pP)×(List rC)×(List Int)×Int×Int
noncomputable def wT (line:List UInt8) (b:RS):Option (RS⊕ER7):=
  (uA line).bind fun q=>(tU b q).bind fun r=>
     if (!decide (r.1=(0:Int)))=true then
      some (.inr ([],[],[],[],[],b.2.1,r.1))
     else
      if r.2.1=true then
       if (b.1.length+1)*8≤140737488355328 then
         some (.inl (b.1++[b.2.1+(line.length:Int)],b.2.1+(line.length:Int),b.2.2.1+1,r.2.2))
       else none
      else
        some (.inl (b.1,b.2.1+(line.length:Int),b.2.2.1+1,r.2.2))
noncomputable def tC:List (List UInt8)→RS→Option (FR⊕ER7)
  |[],b=>some (.inl (b.1,b.2.2.2))
  | l::ls,b=>(wT l b).bind fun w=>match w with
    | .inl b'=>tC ls b'
    | .inr e=>some (.inr e)
theorem a4q {L:List (List UInt8)}(hL:L.length≤4000000000): ∀(ls:List (List UInt8)) (i:Nat) (b:RS),L.drop i=ls→b.2.2.1=(i:Int)→0≤b.2.1→b.2.1+(ls.flatten.length:Int)≤4000000000→q6 (x4 L) b=tC ls b
  | [],i,b,hd,hi,h0,h1=>by
    have hlen:L.length≤i:=by
      have:=aM0 List.length hd;rw[aML,aMF] at this;omega
    obtain⟨b1,b2,b3,b4,b5,b6,b7,b8,b9,b10,b11,b12,b13,b14,FY,b16,b17⟩:=b;dsimp only at hi;subst hi;refine uR ?_;unfold x4;dsimp only;rw[if_neg (by simp;omega)]
  | l::ls,i,b,hd,hi,h0,h1=>by
    have hil:i<L.length:=by
      have:=aM0 List.length hd;rw[aML,aMv] at this;omega
    have hc:=aMU hil;rw[hd] at hc;obtain⟨rfl,h2⟩:=List.cons.inj hc;rw[aNj,aMu] at h1;have hst:=aBO (b:=b) hi hil (by omega) (by unfold pA;omega);rw[xM,hst,tC];unfold wT;rw[hi];cases hp:uA L[i] with
    |none=>rfl
    | some q=>
      rw[aMs,aMs];cases hr:tU b q with
      |none=>rfl
      | some r=>
        rw[aMs,aMs];by_cases g1:(!decide (r.1=(0:Int)))=true
        · rw[if_pos g1,if_pos g1]
          rfl
        · rw[if_neg g1,if_neg g1]
          by_cases g2:r.2.1=true
          · rw[if_pos g2,if_pos g2]
            by_cases g3:(b.1.length+1)*8≤140737488355328
            · rw[if_pos g3,if_pos g3,aMs,aMs]
              exact a4q hL ls (i+1) _ h2.symm (by dsimp only;omega) (by dsimp only;omega) (by dsimp only;omega)
            · rw[if_neg g3,if_neg g3]
              rfl
          · rw[if_neg g2,if_neg g2,aMs,aMs]
            exact a4q hL ls (i+1) _ h2.symm (by dsimp only;omega) (by dsimp only;omega) (by dsimp only;omega)
def IE:RS:=([],0,0,[],[],[],[],[],[],[],[],[],0,[],false,false,-1)
theorem aI0 (s:List UInt8):(LN s).flatten.length=s.length:=by rw[(aIZ s.length s (Nat.le_refl _)).2]
theorem aB1 {s:List UInt8}(hs:s.length<=4000000000):q6 (x4 (LN s)) IE=tC (LN s) IE:=by
 have hl:(LN s).length<=s.length:=by
  unfold LN;rw[aNv];exact aBG s _ _
 refine a4q (by omega) (LN s) 0 IE (by rw[aNw]) rfl (aNA _) ?_;rw[aI0];show (0:Int)+(s.length:Int)<=4000000000;omega
theorem CT {p:Prop}{α:Type}{v:α}:p->(some v).isSome=true:=fun _=>rfl
theorem aB2 {ρ:Type}{f:Int->Option (Int⊕(Unit⊕ρ))}{n:Nat}(p:Nat->Bool) (g:Nat->ρ)
  (hf: ∀(i:Nat),i<n->f i=if p i=true then some (.inr (.inr (g i))) else some (.inl (i+1)))
  (he:f n=some (.inr (.inl ()))):q6 f 0=some (uF (fun k=> .inr (g k)) (.inl ()) ((List.range n).findIdx? p)):=by
 refine AR (l:=List.range n) p g (fun i h=> ?_) (by rw[List.length_range];exact he);have hi:i<n:=by rw[List.length_range] at h;exact h
 rw[List.getElem_range];exact hf i hi
theorem aI1 (a b:List UInt8):(!Op.bytesLess a b)=(Op.bytesLess b a||decide (b=a)):=by
 rw[bytesLess_eq,bytesLess_eq,aNI];simp only[aMV,aM7,aNH,aMw];constructor
 ·intro h;exact(List.le_iff_lt_or_eq.1 (List.not_lt.1 h))
 ·rintro(h|h)
  ·exact List.lt_asymm h
  ·rw[h];exact List.lt_irrefl _
theorem aB3 {n:Nat}{p:Nat->Bool}{b:Bool}:sJ (some (uF (fun _=>Sum.inr false) (Sum.inl ()) ((List.range n).findIdx? p))) (fun _:Unit=>some b)=some (!((List.range n).any p)&&b):=by
 rw[I0];cases(List.range n).any p<;>rfl
def vR (l:List (List UInt8)):Bool:=decide ((l.length:Int)<=20)&& !(l.any fun x=> !rN x)
theorem aI2 (l:List (List UInt8)) (hl:pJ l) (hx: ∀x∈l,pJ x):zG l=some (l.any fun x=> !rN x):=by
 unfold pJ at hl;have h:=AR (f:=NQ l) (l:=l) (fun x=> !rN x) (fun k=>(k:Int)) (fun i h=>by
  have h1:=KR l[i] (hx _ (aNJ h));unfold NQ NN;rw[if_pos (tD h),if_pos (rW h),yK (t:= .str) h,h1,aMs,aMs,if_pos (sS (by omega))];rfl) (by
  unfold NQ;rw[if_neg (vP _)])
 unfold zG KD;rw[h,E7];show some (decide _)=_;rw[aHq]
theorem aB4 (l:List (List UInt8)) (hl:pJ l) (hx: ∀x∈l,pJ x):HT l=some ()/\((decide ((l.length:Int)<=20))&&(!(val (zG l))))=vR l:=by
 unfold HT;rw[aI2 l hl hx];exact⟨if_pos CT,rfl⟩
def TC (l:List (List UInt8)) (i:Nat):Bool:=(!s8 (l.getD i []))||(decide (0<i)&& !Op.bytesLess (l.getD (i-1) []) (l.getD i []))
def AD (l:List (List UInt8)):Bool:= !((List.range l.length).any (TC l))&&decide ((l.length:Int)<=20)
theorem a4r {l:List (List UInt8)}{i:Nat}:pU .str l (i:Int)=l.getD i []:=by unfold pU;rw[aM6];rfl
theorem aI3 {l:List (List UInt8)}{i:Nat}:pU .str l ((i:Int)-1)=l.getD (i-1) []:=by
 unfold pU;rw[show ((i:Int)-1).toNat=i-1 by omega];rfl
theorem aB5 {i:Nat}:decide ((0:Int)<(i:Int))=decide (0<i):=by simp
theorem aI4 (l:List (List UInt8)) (hl:pJ l):DO l=some (AD l):=by
 unfold pJ at hl;have h:=aB2 (f:=N1 l) (n:=l.length) (TC l) (fun _=>false) (fun i h=>by
  unfold N1;rw[if_pos (tD h),if_pos (rW h),a4r,aI3,SW,aMs,aB5];have h0: ∀q:Bool,((q==false)&&(decide (0<i)==true))=true->0<i:=fun q hq=>by
   simp only[aMz,aOd,aMw] at hq;exact hq.2
  rw[if_pos (fun hq=>by have:=h0 _ hq;unfold pA;omega),if_pos (fun hq=>by have:=h0 _ hq;omega),if_pos (sS (by omega))];rfl) (by
  unfold N1;rw[if_neg (vP _)])
 unfold DO;rw[h,aB3];rfl
abbrev fD:qO:=([],([],()))
def TD (l:List qO) (i:Nat):Bool:=((!s8 (l.getD i fD).1)||(!rN (l.getD i fD).2.1))||(decide (0<i)&& !Op.bytesLess (l.getD (i-1) fD).1 (l.getD i fD).1)
def uY (l:List qO):Bool:= !((List.range l.length).any (TD l))&&decide ((l.length:Int)<=20)
theorem aB6 {l:List qO}{i:Nat}:pU (.pair .str (.pair .str .unit)) l (i:Int)=l.getD i fD:=by unfold pU;rw[aM6];rfl
theorem aI5 {l:List qO}{i:Nat}:pU (.pair .str (.pair .str .unit)) l ((i:Int)-1)=l.getD (i-1) fD:=by
 unfold pU;rw[show ((i:Int)-1).toNat=i-1 by omega];rfl
def TE (x:qO):Prop:=pJ x.1/\pJ x.2.1
theorem OE {α:Type}{l:List α}{i:Nat}{d:α}(h:i<l.length):l.getD i d∈l:=by
 rw[aMP,aMA h];exact aNJ h
theorem aB7 {i:Nat}{q:Bool}(hq:((q==false)&&(decide (0<i)==true))=true):0<i:=by
 simp only[aMz,aOd,aMw] at hq;exact hq.2
theorem aB8 (l:List qO) (hl:pJ l) (hx: ∀x∈l,TE x):CL l=some (uY l):=by
 unfold pJ at hl;have h:=aB2 (f:=NL l) (n:=l.length) (TD l) (fun _=>false) (fun i h=>by
  unfold NL;have hf:=hx _ (OE (d:=fD) h);rw[if_pos (tD h),if_pos (rW h),aB6,aI5,SW,aMs,aB5,KR _ hf.2];rw[if_pos CT,if_pos (fun hq=>by have:=aB7 hq;unfold pA;omega),if_pos (fun hq=>by have:=aB7 hq;omega),if_pos (sS (by omega))];rfl) (by
  unfold NL;rw[if_neg (vP _)])
 unfold CL;rw[h,aB3];rfl
abbrev tH:=rC
structure a4s (x:tH):Prop where
 id:pJ x.1
 src:pJ x.2.1
 tgt:pJ x.2.2.1
 com:pJ x.2.2.2.1/\∀y∈x.2.2.2.1,pJ y
 flg:pJ x.2.2.2.2.1/\∀y∈x.2.2.2.2.1,pJ y
 fld:pJ x.2.2.2.2.2.2.1/\∀y∈x.2.2.2.2.2.2.1,TE y
def xA (x:tH):Bool:=
 (((((((!decide (x.1=[]))&&decide ((x.1.length:Int)<=200))&&rN x.1)&&rN x.2.1)&&rN x.2.2.1)&&vR x.2.2.2.1)&&AD x.2.2.2.2.1)&&(decide (0<=x.2.2.2.2.2.1)&&decide (x.2.2.2.2.2.1<=4))&&uY x.2.2.2.2.2.2.1
theorem aI6 (x:tH) (h:a4s x):FO x=some (xA x):=by
 obtain⟨t1,t2⟩:=aB4 _ h.com.1 h.com.2;have e1:=aI4 _ h.flg.1;have e2:=aB8 _ h.fld.1 h.fld.2;unfold FO;rw[KR _ h.id,KR _ h.src,KR _ h.tgt,t1,t2,e1,e2];have k: ∀s:List UInt8,(decide ((s.length:Int)<=4000)&&Lib.validD s)=rN s:=fun s=>rfl;rw[if_pos CT,aMs,if_pos CT,if_pos CT,if_pos CT,if_pos CT,k,k,k];unfold xA;show (if _ then some false else some _)=_;have a1:decide ((200:Int)<(x.1.length:Int))= !decide ((x.1.length:Int)<=200):=by rw[<-decide_not];exact aOq.2 (by omega)
 have a2:decide (x.2.2.2.2.2.1<(0:Int))= !decide ((0:Int)<=x.2.2.2.2.2.1):=by rw[<-decide_not];exact aOq.2 (by omega)
 have a3:decide ((4:Int)<x.2.2.2.2.2.1)= !decide (x.2.2.2.2.2.1<=(4:Int)):=by rw[<-decide_not];exact aOq.2 (by omega)
 rw[a1,a2,a3];show (if _ then some false else some (((((rN x.2.1&&rN x.2.2.1)&&vR x.2.2.2.1)&&AD x.2.2.2.2.1))&&uY x.2.2.2.2.2.2.1))=_;generalize decide (x.1=[])=b1;generalize decide ((x.1.length:Int)<=200)=b2;generalize rN x.1=b3;generalize rN x.2.1=b4;generalize rN x.2.2.1=b5;generalize vR x.2.2.2.1=b6;generalize AD x.2.2.2.2.1=b7;generalize decide ((0:Int)<=x.2.2.2.2.2.1)=b8;generalize decide (x.2.2.2.2.2.1<=(4:Int))=b9;generalize uY x.2.2.2.2.2.2.1=b10;cases b1<;>cases b2<;>cases b3<;>cases b8<;>cases b9<;>simp
abbrev eD:tH:=([],([],([],([],([],(0,([],())))))))
def EJ (es:List tH) (i:Nat):Bool:=((es.take i).any fun y=>decide (y.1=(es.getD i eD).1))|| !xA (es.getD i eD)
def vS (c:C4):Bool:=((uB c.1&&vR c.2.1)&&uY c.2.2.1)&&(decide ((c.2.2.2.1.length:Int)<=1000)&& !((List.range c.2.2.2.1.length).any (EJ c.2.2.2.1)))
theorem aB9 {l:List tH}{i:Nat}:pU uV l (i:Int)=l.getD i eD:=by unfold pU;rw[aM6];rfl
structure a4t (c:C4):Prop where
 tag:pJ c.1
 com:pJ c.2.1/\∀y∈c.2.1,pJ y
 fld:pJ c.2.2.1/\∀y∈c.2.2.1,TE y
 len:c.2.2.2.1.length<=5000
 ent: ∀x∈c.2.2.2.1,a4s x
theorem aCa {α:Type}{l:List α}{i:Nat}{d:α}(h:i<l.length):l.take (i+1)=l.take i++[l.getD i d]:=by
 rw[List.take_add_one,aMA h,aMP,aMA h];rfl
theorem aCb {c:C4}(hc:a4t c): ∀(n i:Nat) (m:List (List UInt8×Bool)),i+n=c.2.2.2.1.length->T9 m (c.2.2.2.1.take i)->
  q6 (HU c) ((i:Int),m)=some (if (List.range' i n).any (EJ c.2.2.2.1)=true then .inr false else .inl ())
 |0,i,m,hi,_=>by
  have:i=c.2.2.2.1.length:=by omega
  subst this;refine uR ?_;unfold HU;dsimp only;rw[if_neg (vP _)];rfl
 |n+1,i,m,hi,hm=>by
  have h:i<c.2.2.2.1.length:=by omega
  have he:=hc.ent _ (OE (d:=eD) h);have hl:=hc.len;have hst:HU c ((i:Int),m)=if EJ c.2.2.2.1 i=true then some (.inr (.inr false)) else some (.inl (((i+1:Nat):Int),tX .str .bool (c.2.2.2.1.getD i eD).1 true m)):=by
   unfold HU;dsimp only;rw[if_pos (tD h),if_pos (rW h),aB9,hm,aI6 _ he,if_pos CT,if_pos (sS (by omega))];rfl
  rw[aOc,List.any_cons];by_cases hb:EJ c.2.2.2.1 i=true
  ·rw[if_pos hb] at hst;rw[hb,Bool.true_or,if_pos rfl];exact uR hst
  ·rw[if_neg hb] at hst;rw[BF hst,aCb hc n (i+1) _ (by omega) (by rw[aCa (d:=eD) h];exact aBt hm _ _ rfl)];simp only[aNr] at hb;rw[hb,Bool.false_or]
theorem aI7 {c:C4}(hc:a4t c):HV c=some (vS c):=by
 obtain⟨t1,t2⟩:=aB4 _ hc.com.1 hc.com.2;have e2:=aB8 _ hc.fld.1 hc.fld.2;have hlp:=aCb hc c.2.2.2.1.length 0 [] (by omega) (fun x=>by rfl);rw[<-List.range_eq_range'] at hlp;have hlp':q6 (HU c) ((0:Int),[])=_:=hlp;have a1:decide ((1000:Int)<(c.2.2.2.1.length:Int))= !decide ((c.2.2.2.1.length:Int)<=1000):=by rw[<-decide_not];exact aOq.2 (by omega)
 unfold HV;rw[a3J,aMs,t1,t2,e2,if_pos CT,if_pos CT,hlp',a1];unfold vS;show (if (((!uB c.1)||(!vR c.2.1))||(!uY c.2.2.1)||_)=true then some false else _)=_
 generalize uB c.1=b1;generalize vR c.2.1=b2;generalize uY c.2.2.1=b3;generalize decide ((c.2.2.2.1.length:Int)<=1000)=b4;generalize (List.range c.2.2.2.1.length).any (EJ c.2.2.2.1)=b5;cases b1<;>cases b2<;>cases b3<;>cases b4<;>cases b5<;>rfl
def EK (l:List (List UInt8)):Prop:=l.length<=6000/\∀x∈l,x.length<=6000
def IF (l:List qO):Prop:=l.length<=6000/\∀x∈l,x.1.length<=6000/\x.2.1.length<=6000
structure L1 (x:tH):Prop where
 id:x.1.length<=6000
 src:x.2.1.length<=6000
 tgt:x.2.2.1.length<=6000
 com:EK x.2.2.2.1
 flg:EK x.2.2.2.2.1
 fld:IF x.2.2.2.2.2.2.1
structure G0 (c:C4):Prop where
 tag:c.1.length<=100
 com:EK c.2.1
 fld:IF c.2.2.1
 len:c.2.2.2.1.length<=1000
 ent: ∀x∈c.2.2.2.1,L1 x
theorem G1 {l:List UInt8}(h:l.length<=6000):pJ l:=by unfold pJ;omega
theorem a4u {l:List (List UInt8)}(h:EK l):pJ l/\∀y∈l,pJ y:=⟨by have:=h.1;unfold pJ;omega,fun y hy=>G1 (h.2 y hy)⟩
theorem aCc {l:List qO}(h:IF l):pJ l/\∀y∈l,TE y:=⟨by have:=h.1;unfold pJ;omega,fun y hy=>⟨G1 (h.2 y hy).1,G1 (h.2 y hy).2⟩⟩
theorem L1.fitP {x:tH}(h:L1 x):a4s x:=⟨G1 h.id,G1 h.src,G1 h.tgt,a4u h.com,a4u h.flg,aCc h.fld⟩
theorem G0.fitP {c:C4}(h:G0 c):a4t c:=⟨G1 (by have:=h.tag;omega),a4u h.com,aCc h.fld,by have:=h.len;omega,fun x hx=>(h.ent x hx).fitP⟩
theorem aCd {σ ρ α:Type}{f:σ->Option (σ⊕ρ)}(st:Int->List α->σ) (out:List α->ρ) {n M B:Nat}(g:Nat->List α) (hg: ∀i,i<n->(g i).length<=B)
  (hf: ∀(i:Nat) s,i<n->s.length+B<=M->f (st i s)=some (.inl (st ((i:Int)+1) (s++g i)))) (he: ∀s,f (st n s)=some (.inr (out s))):
  ∀(k i:Nat) (s:List α),i+k=n->s.length+k*B<=M->q6 f (st i s)=some (out (s++(List.range' i k).flatMap g))
 |0,i,s,hi,_=>by
  have:i=n:=by omega
  subst this;rw[uR (he s)];simp
 |k+1,i,s,hi,hM=>by
  rw[aNx] at hM;have hgi:=hg i (by omega);rw[BF (hf i s (by omega) (by omega)),show ((i:Int)+1)=((i+1:Nat):Int) by omega,aCd st out g hg hf he k (i+1) (s++g i) (by omega) (by rw[aMu];omega),aOc,aNT,aMC]
theorem aCe {α:Type}{g:Nat->List α}{B:Nat}: ∀(k i:Nat),(∀j,i<=j->j<i+k->(g j).length<=B)->((List.range' i k).flatMap g).length<=k*B
 |0,i,_=>by simp
 |k+1,i,h=>by
  rw[aOc,aNT,aMu,aNx];have h1:=aCe k (i+1) fun j h1 h2=>h j (by omega) (by omega);have h2:=h i (by omega) (by omega);omega
theorem OF {σ ρ α:Type}{f:σ->Option (σ⊕ρ)}(st:Int->List α->σ) (out:List α->ρ) {n M B:Nat}(g:Nat->List α) (hg: ∀i,i<n->(g i).length<=B) (s:List α) (hM:s.length+n*B<=M)
  (hf: ∀(i:Nat) s,i<n->s.length+B<=M->f (st i s)=some (.inl (st ((i:Int)+1) (s++g i)))) (he: ∀s,f (st n s)=some (.inr (out s))):
  q6 f (st 0 s)=some (out (s++(List.range' 0 n).flatMap g)):=aCd st out g hg hf he n 0 s (by omega) hM
theorem TF {α β:Type}{l:List α}{d:α}(h:α->List β):(List.range' 0 l.length).flatMap (fun i=>h (l.getD i d))=l.flatMap h:=by
 have e:(List.range' 0 l.length).map (fun i=>l.getD i d)=l:=by
  apply List.ext_getElem
  ·simp
  ·intro i h1 h2;simp [aMP,h2]
 conv=>rhs;rw[<-e]
 rw[List.flatMap_map]
theorem G2 {α β:Type}{l:List α}{h:α->List β}{B:Nat}(hb: ∀x∈l,(h x).length<=B):(l.flatMap h).length<=l.length*B:=by
 induction l with
 |nil=>simp
 |cons x l ih=>
  rw[aNT,aMu,aMv,aNx];have h1:=hb x aMO;have h2:=ih fun y hy=>hb y (aMH _ hy);omega
def tM (n b:Nat) (first:Bool):List UInt8:=(DX (n:Int) (b:Int) first).getD []
theorem aI8:((List.range 256).all fun b=>[true,false].all fun f=>decide (DX 3 (b:Int) f=some (tM 3 b f))&&(decide (SF 3 (b:Int) f=some (tM 3 b f))&&decide ((tM 3 b f).length<=6)))=true:=by kernel_rfl
theorem aI9:((List.range 256).all fun b=>[true,false].all fun f=>decide (DX 1 (b:Int) f=some (tM 1 b f))&&(decide (SF 1 (b:Int) f=some (tM 1 b f))&&decide ((tM 1 b f).length<=6)))=true:=by kernel_rfl
theorem aCf {n b:Nat}(hn:n=1\/n=3) (hb:b<256) (f:Bool):DX (n:Int) (b:Int) f=some (tM n b f)/\SF (n:Int) (b:Int) f=some (tM n b f)/\(tM n b f).length<=6:=by
 have hf:f∈[true,false]:=by cases f<;>simp
 rcases hn with rfl|rfl
 ·have h:=aNa.1 (aNa.1 aI9 b (by simpa using hb)) f hf;simpa using h
 ·have h:=aNa.1 (aNa.1 aI8 b (by simpa using hb)) f hf;simpa using h
def IG (n:Nat) (s:List UInt8) (i:Nat):List UInt8:=tM n (s.getD i 0).toNat (decide (i=0))
def qU (n:Nat) (s:List UInt8):List UInt8:=(List.range' 0 s.length).flatMap (IG n s)
theorem aCg {n:Nat}(hn:n=1\/n=3) (s:List UInt8) (i:Nat):(IG n s i).length<=6:=(aCf hn (UInt8.toNat_lt _) _).2.2
theorem EL {n:Nat}(hn:n=1\/n=3) (s:List UInt8):(qU n s).length<=6*s.length:=by
 have:=aCe (g:=IG n s) (B:=6) s.length 0 fun j _ _=>aCg hn s j;unfold qU;omega
theorem aJa {s:List UInt8}{i:Nat}:pV s (i:Int)=((s.getD i 0).toNat:Int):=by unfold pV;rw[aM6]
theorem aJb {i:Nat}:decide ((i:Int)=0)=decide (i=0):=aOq.2 (by omega)
theorem TG {l:List Nat}{g:Nat->List UInt8}:l.flatMap (fun i=>rG (g i))=rG (l.flatMap g):=by
 induction l with
 |nil=>rfl
 |cons x l ih=>rw[aNT,aNT,AB,ih]
theorem zO (l:List UInt8):(rG l).length=l.length:=by simp [rG]
theorem aJc {n:Nat}(hn:n=1\/n=3) {s:List UInt8}(hs:pJ s):CM (n:Int) s=some (qU n s):=by
 unfold pJ at hs;have hn4: ¬decide ((n:Int)=4)=true:=by simp;omega
 have h:=OF (f:=NM (n:Int) s) (fun i b=>(i,b)) (fun b=>b) (n:=s.length) (M:=10000000000000) (B:=6) (fun i=>rG (IG n s i)) (fun i _=>by rw[zO];exact aCg hn s i) [] (by simp;omega) (fun i b hi hM=>by
  obtain⟨e1,_,e3⟩:=aCf hn (UInt8.toNat_lt (s.getD i 0)) (decide (i=0));unfold NM;dsimp only;rw[if_pos (tD hi),if_neg hn4,if_pos (rW hi),aJa,aJb,e1,aMs];unfold wY;rw[if_pos (by dsimp only;omega),aMs,if_pos (sS (by omega))];rfl) (fun b=>by
  unfold NM;dsimp only;rw[if_neg (vP _)])
 unfold CM;rw[if_neg (by simp;omega),h,TG];unfold qM;rw[aMs,List.nil_append,KU];rfl
def AZ (h:List UInt8) (l:List (List UInt8)) (t:List UInt8):List UInt8:=h++(l.flatten++t)
theorem aCh {f:(Int×List UInt8)->List Int->Option (List Int⊕List UInt8)}(hf: ∀it b,b.length+it.2.length<=140737488355328->f it b=some (.inl (b++rG it.2))): ∀(l:List (Int×List UInt8)) (b:List Int),
  b.length+((l.map (·.2)).flatten).length<=140737488355328->uT f l b=some (.inl (b++rG (l.map (·.2)).flatten))
 |[],b,_=>by simp [uT,rG]
 |it::l,b,h=>by
  simp only[aNt,aNj,aMu] at h;unfold uT;rw[hf it b (by omega),aMs];show uT f l _=_;rw[aCh hf l _ (by rw[aMu,zO];omega)];simp only[aNt,aNj,AB,aMC]
theorem aCi (d:tO):((A4 d).map (·.2)).flatten=AZ d.1 d.2.1 d.2.2.1:=by
 unfold A4 AZ;have e:(List.range d.2.1.length).map (fun j=>d.2.1.getD j [])=d.2.1:=by
  apply List.ext_getElem
  ·simp
  ·intro i h1 h2;simp [aMP,h2]
 have e2:(((List.range d.2.1.length).map fun j:Nat=>((j:Int)+1,d.2.1.getD j [])).map (·.2))=d.2.1:=by
  rw[List.map_map];exact e
 simp only[aNt,List.map_append,List.map_nil,aNj,List.flatten_append,List.flatten_nil,List.append_nil,e2,aMC]
theorem a4v (d:tO) (hl:d.2.1.length<=900000) (hb:(AZ d.1 d.2.1 d.2.2.1).length<=140737488355328):FI d=some (AZ d.1 d.2.1 d.2.2.1):=by
 have h:=aCh (f:=SA) (fun it b h=>by
  unfold SA wY;rw[if_pos h,aMs]) (A4 d) [] (by rw[aCi];simpa using hb)
 unfold FI;rw[if_pos (by omega),h,aCi];unfold sJ;dsimp only;rw[aMs];simp only[List.nil_append,KU]
def xQ (n:Nat):Bool->List UInt8->List UInt8
 |_,[]=>[]
 |f,b::t=>tM n b.toNat f++xQ n false t
theorem aCj (n:Nat): ∀(s:List UInt8) (p:List UInt8),p≠[]->(List.range' p.length s.length).flatMap (IG n (p++s))=xQ n false s
 |[],p,_=>by simp [xQ]
 |b::t,p,hp=>by
  have hl:0<p.length:=aNN.2 hp;rw[aMv,aOc,aNT];have h1:IG n (p++b::t) p.length=tM n b.toNat false:=by
   unfold IG;rw[show decide (p.length=0)=false by simp;exact hp];congr 2;rw[aMP,aMD (Nat.le_refl _),aOv];rfl
  have h2:=aCj n t (p++[b]) (by simp);rw[aMu,aNh,aMC,aNF] at h2;rw[h1,h2];rfl
theorem OG (n:Nat) (s:List UInt8):qU n s=xQ n true s:=by
 cases s with
 |nil=>rfl
 |cons b t=>
  unfold qU;rw[aMv,aOc,aNT];have h2:=aCj n t [b] (by simp);rw[aNh,aNF] at h2;rw[aM3,h2];rfl
theorem aJd {e:List UInt8}(t:List UInt8) (h:(wD e).2=e.length) (h0:e≠[]):wD (e++t)=wD e:=by
 match e,h,h0 with
 |[a],h,_=>simp [wD] at h
 |a::c::u,h,_=>
  show wD (a::c::(u++t))=wD (a::c::u);simp only[wD] at h⊢;split
  ·rfl
  ·rename_i h1;rw[if_neg h1] at h;split
   ·rfl
   ·rename_i h2;rw[if_neg h2] at h;split
    ·rfl
    ·rename_i h3;rw[if_neg h3] at h;split
     ·rfl
     ·rename_i h4;rw[if_neg h4] at h;by_cases hx:c=120/\2<=u.length
      ·rw[if_pos hx,if_pos ⟨hx.1,by rw[aMu];omega⟩,aN0 hx.2]
      ·rw[if_neg hx] at h⊢;by_cases hu:c=117/\4<=u.length
       ·have: ¬(c=120/\2<=(u++t).length):=fun hh=>by
         have:=hu.1.symm.trans hh.1;exact absurd this (by decide)
        rw[if_neg this,if_pos hu,if_pos ⟨hu.1,by rw[aMu];omega⟩,aN0 hu.2]
       ·rw[if_neg hu] at h;simp at h
theorem aJe {n:Int}{e:List UInt8}(t:List UInt8) (h:(sG n e).2=e.length) (h0:e≠[]):sG n (e++t)=sG n e:=by
 match e,h,h0 with
 |b::u,h,_=>
  show sG n (b::(u++t))=_;by_cases hb:b=92
  ·rw[KS hb] at h⊢;rw[KS hb];exact aJd (e:=b::u) t h (by simp)
  ·by_cases hk:y9 n b=true
   ·rw[I5 hb hk,I5 hb hk]
   ·rw[KT hb hk,KT hb hk]
theorem aJf:((List.range 256).all fun b=>[true,false].all fun f=>decide (sG 3 (tM 3 b f)=([b.toUInt8],(tM 3 b f).length))&&(decide (tM 3 b f≠[])&&decide (rO 34 (tM 3 b f++[34])=some (tM 3 b f).length)))=true:=by kernel_rfl
theorem aJg:((List.range 256).all fun b=>[true,false].all fun f=>decide (sG 1 (tM 1 b f)=([b.toUInt8],(tM 1 b f).length))&&(decide (tM 1 b f≠[])&&decide (rO 61 (tM 1 b f++[61])=some (tM 1 b f).length)))=true:=by kernel_rfl
def L2 (n:Nat):UInt8:=if n=1 then 61 else 34
theorem aCk {n:Nat}(hn:n=1\/n=3) (b:UInt8) (f:Bool):sG (n:Int) (tM n b.toNat f)=([b],(tM n b.toNat f).length)/\tM n b.toNat f≠[]/\rO (L2 n) (tM n b.toNat f++[L2 n])=some (tM n b.toNat f).length:=by
 have hf:f∈[true,false]:=by cases f<;>simp
 have hb:b.toNat<256:=UInt8.toNat_lt b;have hbb:b.toNat.toUInt8=b:=by simp
 rcases hn with rfl|rfl
 ·have h:=aNa.1 (aNa.1 aJg b.toNat (by simpa using hb)) f hf;simp only[aMz,aMw,hbb] at h;exact⟨h.1,h.2.1,h.2.2⟩
 ·have h:=aNa.1 (aNa.1 aJf b.toNat (by simpa using hb)) f hf;simp only[aMz,aMw,hbb] at h;exact⟨h.1,h.2.1,h.2.2⟩
theorem aCl {n:Nat}(hn:n=1\/n=3): ∀(s:List UInt8) (f:Bool) (k:Nat),(xQ n f s).length<=k->vQ (n:Int) k (xQ n f s)= .inl s
 |[],f,k,_=>by
  cases k<;>rfl
 |b::t,f,k,hk=>by
  obtain⟨h1,h2,_⟩:=aCk hn b f;unfold xQ at hk⊢;obtain⟨e,he⟩: ∃e,tM n b.toNat f=e:=⟨_,rfl⟩;rw[he] at h1 h2 hk⊢;have hp:=aJe (xQ n false t) (by rw[h1]) h2;rw[h1] at hp;rw[aMu] at hk;have hl:0<e.length:=aNN.2 h2;obtain⟨k',rfl⟩: ∃k',k=k'+1:=⟨k-1,by omega⟩;obtain⟨a,u,rfl⟩: ∃a u,e=a::u:=by
   cases e with
   |nil=>exact absurd rfl h2
   |cons a u=>exact⟨a,u,rfl⟩
  rw[List.cons_append] at hp⊢;unfold vQ;rw[hp,if_neg (by simp)];dsimp only;rw[<-List.cons_append,aN9,aCl hn t false k' (by omega)];rfl
theorem aCm {n:Nat}(hn:n=1\/n=3) (s:List UInt8):x8 (n:Int) (qU n s)=(s,0,0):=by
 unfold x8;rw[OG,aCl hn s true _ (Nat.le_refl _)]
theorem a4w {d:UInt8}: ∀(m:Nat) (e t:List UInt8),e.length<=m->rO d (e++[d])=some e.length->rO d (e++t)=(rO d t).map (· +e.length)
 |_,[],t,_,_=>by simp
 |0,_::_,_,h,_=>by simp at h
 |m+1,b::u,t,hm,h=>by
  rw[List.cons_append] at h⊢;rw[aMv] at hm;by_cases hb:b=d
  ·rw[O3 hb] at h;simp at h
  ·by_cases h9:b=92
   ·rw[O4 hb h9] at h;rw[O4 hb h9];cases u with
    |nil=>simp [T1] at h
    |cons c v=>
     simp only[List.cons_append,aOu,aNw] at h⊢;rw[aMv] at hm;have h':rO d (v++[d])=some v.length:=by
      cases hq:rO d (v++[d]) with
      |none=>rw[hq] at h;cases h
      |some k=>rw[hq] at h;simp at h;rw[h]
     rw[a4w m v t (by omega) h',Option.map_map];congr 1
   ·rw[I3 hb h9] at h;rw[I3 hb h9];have h':rO d (u++[d])=some u.length:=by
     cases hq:rO d (u++[d]) with
     |none=>rw[hq] at h;cases h
     |some k=>rw[hq] at h;simp at h;rw[h]
    rw[a4w m u t (by omega) h',Option.map_map];congr 1
theorem a4x {n:Nat}(hn:n=1\/n=3): ∀(s:List UInt8) (f:Bool) (t:List UInt8),rO (L2 n) (xQ n f s++t)=(rO (L2 n) t).map (· +(xQ n f s).length)
 |[],f,t=>by simp [xQ]
 |b::u,f,t=>by
  obtain⟨_,_,h3⟩:=aCk hn b f;unfold xQ;rw[aMC,a4w _ _ _ (Nat.le_refl _) h3,a4x hn u false t,Option.map_map];congr 1;funext k;simp only[Function.comp,aMu];omega
theorem aJh {n:Nat}(hn:n=1\/n=3) (s z:List UInt8):rO (L2 n) (qU n s++L2 n::z)=some (qU n s).length:=by
 rw[OG,a4x hn,O3 rfl];simp
set_option maxRecDepth 1000000
theorem a4y {σ ρ:Type}{f:σ->Option (σ⊕ρ)}{n:Nat}(st:Nat->σ) {r:ρ}(h: ∀i,i<n->f (st i)=some (.inl (st (i+1)))) (he:f (st n)=some (.inr r)): ∀(k i:Nat),i+k=n->q6 f (st i)=some r
 |0,i,hi=>by
  have:i=n:=by omega
  subst this;exact aIk he
 |k+1,i,hi=>by
  rw[aIj (h i (by omega))];exact a4y st h he k (i+1) (by omega)
abbrev pc (s:List UInt8) (l:List Nat) (i:Nat):List UInt8:=pF s ((if i=0 then 0 else l.getD (i-1) 0:Nat):Int) (l.getD i 0:Nat)
abbrev yA (s:List UInt8) (l:List Nat):List (List UInt8):=(List.range l.length).map (pc s l)
abbrev G3 (l:List Nat):Nat:=l.getD (l.length-1) 0
section
variable {s:List UInt8}(hsm:s.length<=4000000000) {l:List Nat}(hne:l≠[]) (hs:l.Pairwise (·<=·)) (hle: ∀x∈l,x<=s.length) (hl:l.length<=5000)
theorem TH {i:Nat}(h:i<l.length):pU (.int .i64) (l.map (fun n:Nat=>(n:Int))) (i:Int)=(l.getD i 0:Nat):=by
 rw[yK (t:= .int .i64) (by simpa using h),List.getElem_map,aMP,aMA h];rfl
include hle in
theorem TJ {i:Nat}(h:i<l.length):l.getD i 0<=s.length:=by
 rw[aMP,aMA h];exact hle _ (aNJ h)
include hs in
theorem aCn {i j:Nat}(hij:i<j) (h:j<l.length):l.getD i 0<=l.getD j 0:=by
 rw[aMP,aMP,aMA h,aMA (by omega)];exact(aNL.1 hs) i j (by omega) h hij
end
theorem aJi (d:tO) (h:d.2.1.length<=5000):DW d d=some ([],0):=by
 have hn:((([d.1]:List (List UInt8))++d.2.1)++([d.2.2.1]:List (List UInt8))).length=d.2.1.length+2:=by simp
 have hA:HF d=some ():=by
  unfold HF;rw[if_pos (by simp;omega),if_pos (by simp;omega)]
 have hloop:=a4y (f:=ND d d) (n:=d.2.1.length+2) (fun i=>(([]:List (Int×List UInt8×Unit)),(i:Int))) (r:=[])
  (fun i hi=>by
   unfold ND;dsimp only;rw[hn,if_pos (tD hi),if_pos (rW hi),if_pos (rW hi),if_neg (by simp),if_pos (sS (by omega))];rfl)
  (by
   unfold ND;dsimp only;rw[hn,if_neg (vP _)]) (d.2.1.length+2) 0 (by omega)
 unfold DW;rw[if_neg (by simp),hA,aMs,aMs,show (([]:List (Int×List UInt8×Unit)),(0:Int))=(([]:List (Int×List UInt8×Unit)),((0:Nat):Int)) from rfl,hloop];rfl
theorem aJj (d:tO) (h:d.2.1.length<=5000):FN d d=some true:=by
 unfold FN;rw[aJi d h];rfl
def q3 (s:List UInt8):List UInt8:=([34]++qU 3 s)++[34]
theorem L3 {l:List UInt8}{n:Nat}(h:l.length≤n) (hn:n≤9223372036854775807):(l.length:Int)≤9223372036854775807:=by omega
theorem TK {l:List (List UInt8)}(h:EK l) {i:Nat}(hi:i<l.length):(l.getD i []).length≤6000:=h.2 _ (OE hi)
theorem aCo {l:List qO}(h:IF l) {i:Nat}(hi:i<l.length):(l.getD i fD).1.length≤6000∧(l.getD i fD).2.1.length≤6000:=h.2 _ (OE hi)
theorem a4z {n:Int}(h0:0≤n) (h1:n≤4):(pU .str vC n).length≤10:=by
  have:n=0∨n=1∨n=2∨n=3∨n=4:=by omega
  rcases this with rfl|rfl|rfl|rfl|rfl<;>decide
theorem aJk {α β:Type}{f:α→β}{l:List α}:l.flatMap (fun x=>[f x])=l.map f:=by
  induction l with
  |nil=>rfl
  |cons x l ih=>rw[aNT,ih];rfl
theorem a4A {c:C4}(hok:vS c=true) {i:Nat}(hi:i<c.2.2.2.1.length):xA (c.2.2.2.1.getD i eD)=true:=by
  unfold vS at hok;simp only[aMz,aMV,aNg,aN4] at hok;have:=hok.2.2 i hi;unfold EJ at this;simp only[aNH,aMV,not_or,Bool.not_eq_false] at this;exact this.2
theorem TL {x:tH}(h:xA x=true):0≤x.2.2.2.2.2.1∧x.2.2.2.2.2.1≤4:=by
  unfold xA at h;simp only[aMz,aMw] at h;exact h.1.2
theorem TM {x y b:UInt8}{t:List UInt8}(h:b≠x): ¬sZ x y (b::t)=true:=by
 cases t with
 |nil=>simp [sZ]
 |cons c u=>simp [sZ,h]
def TN (r:List UInt8):Prop:= ∀b t,r=b::t->AY b≠true/\b≠47
theorem aCp: ∀(g r:List UInt8),(∀b∈g,AY b=true)->TN r->G (g++r)=(g.length,true)
 |[],r,_,hr=>by
  cases r with
  |nil=>rfl
  |cons b t=>
   obtain⟨h1,h2⟩:=hr b t rfl;rw[List.nil_append,aBq h1 (TM h2) (TM h2)];rfl
 |b::g,r,hg,hr=>by
  rw[List.cons_append,aBp (hg b aMO),aCp g r (fun x hx=>hg x (aMH _ hx)) hr];simp only[I6,aMv,aMX,and_true];omega
theorem aJl {g r:List UInt8}(hg: ∀b∈g,AY b=true) (hr:TN r):EC (g++r)=((BV r).1,(BV r).2.1,g.length,g.length+(BV r).2.2):=by
 unfold EC;rw[aCp g r hg hr];simp only[aN8,aN9]
structure At (s:List UInt8) (P:Nat) (l:List UInt8):Prop where
 le:P<=s.length
 eq:s.drop P=l
theorem At.tok {s:List UInt8}{P:Nat}{g r x:List UInt8}{k:Int}{m:Nat}(h:At s P (g++r)) (hg: ∀b∈g,AY b=true) (hr:TN r) (ht:BV r=(k,x,m)):kS s P=k/\xS s P=x/\At s (nS s P) (r.drop m):=by
 have e:=aJl hg hr;rw[ht,<-h.eq] at e;refine⟨?_,?_,(aIc h.le).2,?_⟩
 ·unfold kS;rw[e]
 ·unfold xS;rw[e]
 ·unfold nS;rw[e];dsimp only;rw[<-aOe,h.eq,<-aOe,aN9]
theorem aJm {x z:List UInt8}(hx:rN x=true):BV (q3 x++z)=(1,x,(q3 x).length):=by
 have e1:q3 x++z=34::(qU 3 x++34::z):=by simp [q3]
 have e2:(q3 x).length=(qU 3 x).length+2:=by simp [q3]
 have h1:rO 34 (qU 3 x++34::z)=some (qU 3 x).length:=aJh (n:=3) (.inr rfl) x z;have h2:x8 3 (qU 3 x)=(x,0,0):=aCm (n:=3) (.inr rfl) x;rw[e1,e2,aH6 (by decide) rfl];unfold O8;rw[h1];dsimp only;rw[aNP,h2,if_neg (by simp [hx])]
theorem aJn (x z:List UInt8):TN (q3 x++z):=by
 intro b t h;have:q3 x++z=34::(qU 3 x++34::z):=by simp [q3]
 rw[this] at h;cases h;exact⟨by decide,by decide⟩
theorem At.str {s:List UInt8}{P:Nat}{g x z:List UInt8}(h:At s P (g++(q3 x++z))) (hg: ∀b∈g,AY b=true) (hx:rN x=true):kS s P=1/\xS s P=x/\At s (nS s P) z:=by
 obtain⟨h1,h2,h3⟩:=h.tok hg (aJn x z) (aJm hx);rw[aN9] at h3;exact⟨h1,h2,h3⟩
def TO (w:List UInt8):Bool:=w.all I7&&(match w with|[]=>false|b::_=>KV b.toNat)
theorem aJo {b:UInt8}(h:wM b.toNat=false):I7 b=true:=by
 unfold wM at h;unfold I7 a33 KV;simp only[aN7,aNQ,aMz,aNH,aMw] at h⊢;omega
theorem aCq {x:List UInt8}(h:s8 x=true):TO x=true:=by
 cases x with
 |nil=>cases h
 |cons b t=>
  unfold s8 at h;simp only[aMz,aMV,aNg,aNr] at h;obtain⟨⟨_,h1⟩,h2⟩:=h;have hb:KV b.toNat=true/\I7 b=true:=by
   unfold x5 at h1;unfold I7 a33 KV;simp only[aMz,aNH,aMw] at h1⊢;omega
  unfold TO;rw[aMz,List.all_cons,aMz];exact⟨⟨hb.2,aNa.2 fun c hc=>aJo (h2 c hc)⟩,hb.1⟩
theorem aJp {l:List (List UInt8)}{x:List UInt8}(h: ∀y∈l,y<x):CQ l x=l++[x]:=by
 have hk:uX l x=l.length:=by
  unfold uX;rw[aNM.2 fun y hy=>by rw[AC];simpa using h y hy];rfl
 unfold CQ;rw[hk,List.take_length,aNn,List.append_nil]
theorem aJq {l:List qO}{n v:List UInt8}(h: ∀y∈l,y.1<n):AX l n v=l++[(n,(v,()))]:=by
 have h1:xO l n=none:=by
  unfold xO;rw[aNM];intro y hy;have:=h y hy;simp only[aM7];intro he;rw[he] at this;exact List.lt_irrefl _ this
 have hk:y7 l n=l.length:=by
  unfold y7;rw[aNM.2 fun y hy=>by rw[AC];simp [h y hy]];rfl
 unfold AX;rw[h1,hk,List.take_length,aNn,List.append_nil];rfl
theorem aJr {n:Int}(h0:0<=n) (h4:n<=4):vD (pU .str vC n)=n:=by
 have:n=0\/n=1\/n=2\/n=3\/n=4:=by omega
 rcases this with rfl|rfl|rfl|rfl|rfl<;>decide
theorem aCr {l:List UInt8}(h: ∀b∈l,b.toNat<128):Lib.validD l=true:=by
 rw[Lib.validD_ascii l.length l (fun b hb=>h b (List.mem_of_mem_take hb)),aNn];rfl
theorem aJs {b:UInt8}(h:wM b.toNat=false):b.toNat<128:=by
 unfold wM at h;simp only[aN7,aNQ,aMz,aMw] at h;omega
theorem IH {x:List UInt8}(h:s8 x=true):rN x=true:=by
 cases x with
 |nil=>cases h
 |cons b t=>
  unfold s8 at h;simp only[aMz,aMV,aNg,aNr,aM7] at h;obtain⟨⟨h0,h1⟩,h2⟩:=h;unfold rN;rw[aMz,aMw];refine⟨by simp only[aMv];omega,aCr fun c hc=> ?_⟩;rcases aMK.1 hc with rfl|hc
  ·unfold x5 at h1;simp only[aMz,aMw] at h1;omega
  ·exact aJs (h2 c hc)
theorem a4B {x:List UInt8}(h:uB x=true):rN x=true:=by
 unfold uB at h;simp only[aMz,aMV,aNg,aNr,aMw] at h;obtain⟨h0,h1,h2⟩:=h;unfold rN;rw[aMz,aMw];refine⟨by omega,aCr fun c hc=> ?_⟩;have:=h0 c hc;unfold I1 at this;simp only[aN7,aNQ,aMz,aNC,aMw,aM7] at this;omega
theorem OH {l:List (List UInt8)}(h:vR l=true):l.length<=20/\∀x∈l,rN x=true:=by
 unfold vR at h;simp only[aMz,aMV,aNg,aMw,aNr,aNQ] at h;exact⟨by omega,fun x hx=>by simpa using h.2 x hx⟩
theorem aCs {α:Type}{r:α->α->Prop}(tr: ∀a b c,r a b->r b c->r a c) {l:List α}(h: ∀(i:Nat) (hi:i+1<l.length),r l[i] l[i+1]):l.Pairwise r:=by
 rw[aNL];intro i j hi hj hij;obtain⟨k,rfl⟩: ∃k,j=i+1+k:=⟨j-i-1,by omega⟩
 induction k with
 |zero=>exact h i hj
 |succ k ih=>exact tr _ _ _ (ih (by omega) (by omega)) (h (i+1+k) hj)
theorem AE {α:Type}{l:List α}{i:Nat}{d:α}(h:i<l.length):l.getD i d=l[i]:=by
 rw[aMP,aMA h];rfl
theorem TP {l:List (List UInt8)}(h:AD l=true):l.length<=20/\(∀x∈l,s8 x=true)/\l.Pairwise (· < ·):=by
 unfold AD at h;simp only[aMz,aMV,aNg,aMw,aN4,aNr] at h;obtain⟨h1,h2⟩:=h;unfold TC at h1;simp only[aNC,aN7,aNQ,aM7] at h1;refine⟨by omega,fun x hx=> ?_,aCs (r:=fun a b:List UInt8=>a<b) (fun a b c=>List.lt_trans) fun i hi=> ?_⟩
 ·obtain⟨i,hi,rfl⟩:=aN5 hx;have:=(h1 i hi).1;rwa [AE hi] at this
 ·have:=(h1 (i+1) hi).2;rw[AE hi,Nat.add_sub_cancel,AE (show i<l.length by omega),AC] at this;exact aNi (this.resolve_left (by omega))
theorem G4 {l:List qO}(h:uY l=true):l.length<=20/\(∀x∈l,s8 x.1=true/\rN x.1=true/\rN x.2.1=true)/\l.Pairwise (fun a b=>a.1<b.1):=by
 unfold uY at h;simp only[aMz,aMV,aNg,aMw,aN4,aNr] at h;obtain⟨h1,h2⟩:=h;unfold TD at h1;simp only[aNC,aN7,aNQ,aM7] at h1;refine⟨by omega,fun x hx=> ?_,aCs (r:=fun a b:qO=>a.1<b.1) (fun a b c=>List.lt_trans) fun i hi=> ?_⟩
 ·obtain⟨i,hi,rfl⟩:=aN5 hx;have:=(h1 i hi).1;rw[AE hi] at this;exact⟨this.1,IH this.1,this.2⟩
 ·have:=(h1 (i+1) hi).2;rw[AE hi,Nat.add_sub_cancel,AE (show i<l.length by omega),AC] at this;exact aNi (this.resolve_left (by omega))
theorem aJt {es:List tH}(h: ∀i,i<es.length->EJ es i=false):es.Pairwise (fun a b=>a.1≠b.1):=by
 rw[aNL];intro i j hi hj hij he;have h1:=h j hj;unfold EJ at h1;simp only[aNC,aNg,aMw] at h1;rw[AE hj] at h1;exact h1.1 es[i] (by rw[List.mem_take_iff_getElem];exact⟨i,by omega,rfl⟩) he
theorem L4 {c:C4}(h:vS c=true):uB c.1=true/\vR c.2.1=true/\uY c.2.2.1=true/\c.2.2.2.1.length<=1000/\(∀x∈c.2.2.2.1,xA x=true)/\c.2.2.2.1.Pairwise (fun a b=>a.1≠b.1):=by
 have h':=h;unfold vS at h';simp only[aMz,aMV,aNg,aN4,aMw,aNr] at h';obtain⟨⟨⟨h1,h2⟩,h3⟩,h4,h5⟩:=h';refine⟨h1,h2,h3,by omega,fun x hx=> ?_,aJt h5⟩;obtain⟨i,hi,rfl⟩:=aN5 hx;have:=a4A h hi;rwa [AE hi] at this
theorem aJu {a b:List UInt8}(h: ¬a<b) (hne:a≠b):b<a:=by
 have:=aI1 a b;rw[AC,AC] at this;have h1:decide (a<b)=false:=by simpa using h
 have h2:decide (b=a)=false:=by simpa using fun e=>hne e.symm
 rw[h1,h2] at this;simpa using this.symm
theorem a4C {α:Type}(f:α->List UInt8) {x:α}{p:α->Bool}: ∀{l:List α},l.Pairwise (fun a b=>f a<f b)->(∀y∈l,f y≠f x)->(∀y∈l,p y= !decide (f y<f x))->
  (l.take ((l.findIdx? p).getD l.length)++[x]++l.drop ((l.findIdx? p).getD l.length)).Pairwise (fun a b=>f a<f b)
 |[],_,_,_=>by simp
 |a::t,hp,hne,hpp=>by
  rw[aOg] at hp;have hpa:=hpp a aMO;rw[aNK];by_cases h:f a<f x
  ·have hpf:p a=false:=by rw[hpa];simpa using h
   rw[hpf];have ih:=a4C f (x:=x) hp.2 (fun y hy=>hne y (aMH _ hy)) (fun y hy=>hpp y (aMH _ hy));have e:((if false=true then some 0 else(t.findIdx? p).map fun i=>i+1).getD (a::t).length)=(t.findIdx? p).getD t.length+1:=by
    cases t.findIdx? p<;>rfl
   rw[e,List.take_succ_cons,aOu,List.cons_append,List.cons_append,aOg];refine⟨fun y hy=> ?_,ih⟩;rw[aMC] at hy;rcases aM4.1 hy with hy|hy
   ·exact hp.1 y (List.mem_of_mem_take hy)
   ·rcases aMK.1 hy with rfl|hy
    ·exact h
    ·exact hp.1 y (List.mem_of_mem_drop hy)
  ·have hpt:p a=true:=by rw[hpa];simpa using h
   rw[hpt];have hx:f x<f a:=aJu h (hne a aMO);show ([]++[x]++(a::t)).Pairwise _;rw[List.nil_append,aNF,aOg];refine⟨fun y hy=> ?_,aOg.2 hp⟩;rcases aMK.1 hy with rfl|hy
   ·exact hx
   ·exact List.lt_trans hx (hp.1 y hy)
theorem aCt {α:Type}{l:List α}{x y:α}{k:Nat}(h:y∈l.take k++[x]++l.drop k):y=x\/y∈l:=by
 rw[aMC] at h;rcases aM4.1 h with h|h
 ·exact .inr (List.mem_of_mem_take h)
 ·rcases aMK.1 h with h|h
  ·exact .inl h
  ·exact .inr (List.mem_of_mem_drop h)
theorem aCu {α:Type}{l:List α}{x:α}{k:Nat}:(l.take k++[x]++l.drop k).length=l.length+1:=by
 simp only[aMu,aMS,aML,aNh];omega
theorem aJv {l:List (List UInt8)}(h:l.length<=20) (hx: ∀x∈l,rN x=true):vR l=true:=by
 unfold vR;simp only[aMz,aMV,aNg,aMw,aNQ,aNr];exact⟨by omega,fun x hxl=>by simpa using hx x hxl⟩
theorem aCv {α:Type}{r:α->α->Prop}{l:List α}(h:l.Pairwise r) {i:Nat}(h0:0<i) (hi:i<l.length):r l[i-1] l[i]:=by
 rw[aNL] at h;exact h (i-1) i (by omega) hi (by omega)
theorem aJw {l:List (List UInt8)}(h:l.length<=20) (hx: ∀x∈l,s8 x=true) (hp:l.Pairwise (· < ·)):AD l=true:=by
 unfold AD;simp only[aMz,aMV,aNg,aMw,aN4,aNr];refine⟨fun i hi=> ?_,by omega⟩;unfold TC;rw[AE hi,hx _ (aNJ hi)];by_cases h0:0<i
 ·rw[AE (show i-1<l.length by omega),AC];simp [aCv hp h0 hi]
 ·simp [h0]
theorem aJx {l:List qO}(h:l.length<=20) (hx: ∀x∈l,s8 x.1=true/\rN x.2.1=true) (hp:l.Pairwise (fun a b=>a.1<b.1)):uY l=true:=by
 unfold uY;simp only[aMz,aMV,aNg,aMw,aN4,aNr];refine⟨fun i hi=> ?_,by omega⟩;unfold TD;obtain⟨a,b⟩:=hx _ (aNJ hi);rw[AE hi,a,b];by_cases h0:0<i
 ·rw[AE (show i-1<l.length by omega),AC];simp [aCv hp h0 hi]
 ·simp [h0]
theorem aJy {l:List (List UInt8)}{x:List UInt8}(h:vR l=true) (hl: ¬20<=l.length) (hx:rN x=true):vR (l++[x])=true:=by
 obtain⟨h1,h2⟩:=OH h;refine aJv (by rw[aMu,aNh];omega) fun y hy=> ?_;rcases aM4.1 hy with hy|hy
 ·exact h2 y hy
 ·rw[aME.1 hy];exact hx
theorem aJz {l:List (List UInt8)}{x:List UInt8}(h:AD l=true) (hl: ¬20<=l.length) (hx:s8 x=true) (hn: ¬(l.any fun y=>decide (y=x))=true):AD (CQ l x)=true:=by
 obtain⟨h1,h2,h3⟩:=TP h;have hne: ∀y∈l,y≠x:=fun y hy e=>hn (List.any_eq_true.2 ⟨y,hy,by simp [e]⟩);unfold CQ uX;refine aJw (by rw[aCu];omega) (fun y hy=> ?_) (a4C (fun y=>y) h3 hne fun y _=>by rw[AC]);rcases aCt hy with rfl|hy
 ·exact hx
 ·exact h2 y hy
theorem aJA {l:List qO}{n v:List UInt8}(h:uY l=true) (hl: ¬20<=l.length) (hx:s8 n=true) (hv:rN v=true) (hn: ¬(l.any fun y=>decide (y.1=n))=true):uY (AX l n v)=true:=by
 obtain⟨h1,h2,h3⟩:=G4 h;have hne: ∀y∈l,y.1≠n:=fun y hy e=>hn (List.any_eq_true.2 ⟨y,hy,by simp [e]⟩);have hk:xO l n=none:=by
  unfold xO;rw[aNM];intro y hy;simpa using hne y hy
 unfold AX;rw[hk];show uY (l.take (y7 l n)++[(n,v,())]++l.drop (y7 l n))=true;unfold y7;refine aJx (by rw[aCu];omega) (fun y hy=> ?_) (a4C (fun y:qO=>y.1) (x:=(n,v,())) h3 hne fun y hy=> ?_)
 ·rcases aCt hy with rfl|hy
  ·exact⟨hx,hv⟩
  ·exact⟨(h2 y hy).1,(h2 y hy).2.2⟩
 ·rw[AC];have:decide (y.1=n)=false:=by simpa using hne y hy
  rw[this,Bool.or_false]
structure L5 (sr tg:List UInt8) (cm fg:List (List UInt8)) (st:Int) (fd:List qO):Prop where
 sr:rN sr=true
 tg:rN tg=true
 cm:vR cm=true
 fg:AD fg=true
 st:0<=st/\st<=4
 fd:uY fd=true
theorem a4D:L5 [] [] [] [] 0 []:=⟨by decide,by decide,by decide,by decide,by decide,by decide⟩
theorem aJB (x:List UInt8) (h: ¬vD x<0):0<=vD x/\vD x<=4:=by
 refine⟨by omega,?_⟩;unfold vD at h⊢;cases hk:vC.findIdx? fun y=>decide (y=x) with
 |none=>exact show ((-1:Int))<=4 by decide
 |some k=>
  have hl:k<vC.length:=(aM5.1 hk).1;have hl':vC.length=5:=rfl;show ((k:Nat):Int)<=4;omega
theorem aJC {id sr tg:List UInt8}{cm fg:List (List UInt8)}{st:Int}{fd:List qO}(hi:I8 id=true) (ht:rN id=true) (h:L5 sr tg cm fg st fd):xA (id,(sr,(tg,(cm,(fg,(st,(fd,())))))))=true:=by
 unfold I8 at hi;unfold xA;dsimp only;rw[aMz] at hi;rw[hi.1,hi.2,ht,h.sr,h.tg,h.cm,h.fg,h.fd,aNk h.st.1,aNk h.st.2];rfl
structure TQ (es:List tH):Prop where
 len:es.length<=1000
 ok: ∀x∈es,xA x=true
 pw:es.Pairwise (fun a b=>a.1≠b.1)
section
variable {s:List UInt8}(hsm:s.length<=4000000000) {bad:Int}{ends:List Int}{tag:List UInt8}{cms:List (List UInt8)}{fds:List qO}{es:List tH}
include hsm
omit hsm in
theorem aJD {c:C4}(h1:uB c.1=true) (h2:vR c.2.1=true) (h3:uY c.2.2.1=true) (h4:TQ c.2.2.2.1):vS c=true:=by
 unfold vS;rw[h1,h2,h3,aNk (show ((c.2.2.2.1.length:Int))<=1000 by have:=h4.len;omega)];simp only[Bool.true_and,aMV,aNg,aN4,aNr];intro i hi;unfold EJ;rw[AE hi,h4.ok _ (aNJ hi)];simp only[Bool.not_true,Bool.or_false,aNg,aMw];intro y hy;rw[List.mem_take_iff_getElem] at hy;obtain⟨j,hj,rfl⟩:=hy;exact aNL.1 h4.pw j i (by omega) hi (by omega)
end
set_option maxRecDepth 1000000
theorem vG {x:List UInt8}(h:rN x=true):x.length≤4000:=by
  unfold rN at h;simp only[aMz,aMw] at h;omega
structure a4E (x:tH):Prop where
  id:x.1.length≤4000
  src:x.2.1.length≤4000
  tgt:x.2.2.1.length≤4000
  com:x.2.2.2.1.length≤20∧∀y∈x.2.2.2.1,y.length≤4000
  flg:x.2.2.2.2.1.length≤20∧∀y∈x.2.2.2.2.1,y.length≤4000
  fld:x.2.2.2.2.2.2.1.length≤20∧∀y∈x.2.2.2.2.2.2.1,y.1.length≤4000∧y.2.1.length≤4000
theorem aCw {x:tH}(h:xA x=true):a4E x:=by
  have h':=h;unfold xA at h';simp only[aMz] at h';obtain⟨⟨⟨⟨⟨⟨⟨⟨hne,h200⟩,hid⟩,hsrc⟩,htgt⟩,hcom⟩,hflg⟩,_⟩,hfld⟩:=h';obtain⟨c1,c2⟩:=OH hcom;obtain⟨f1,f2,f3⟩:=TP hflg;obtain⟨g1,g2,g3⟩:=G4 hfld;exact⟨vG hid,vG hsrc,vG htgt,⟨c1,fun y hy=>vG (c2 y hy)⟩,⟨f1,fun y hy=>vG (IH (f2 y hy))⟩,⟨g1,fun y hy=>⟨vG (g2 y hy).2.1,vG (g2 y hy).2.2⟩⟩⟩
theorem a4F {l:List (List UInt8)}(h:l.length≤20∧∀y∈l,y.length≤4000):EK l:=⟨by omega,fun y hy=>by have:=h.2 y hy;omega⟩
theorem aCx {l:List qO}(h:l.length≤20∧∀y∈l,y.1.length≤4000∧y.2.1.length≤4000):IF l:=⟨by omega,fun y hy=>by have:=h.2 y hy;omega⟩
theorem a4E.few {x:tH}(h:a4E x):L1 x:=⟨by have:=h.id;omega,by have:=h.src;omega,by have:=h.tgt;omega,a4F h.com,a4F h.flg,aCx h.fld⟩
theorem aJE {c:C4}(h:vS c=true):G0 c:=by
  obtain⟨h1,h2,h3,h4,h5,_⟩:=L4 h;obtain⟨c1,c2⟩:=OH h2;obtain⟨g1,g2,g3⟩:=G4 h3;refine⟨?_,a4F ⟨c1,fun y hy=>vG (c2 y hy)⟩,aCx ⟨g1,fun y hy=>⟨vG (g2 y hy).2.1,vG (g2 y hy).2.2⟩⟩,h4,fun x hx=>(aCw (h5 x hx)).few⟩;unfold uB at h1;simp only[aMz,aMw] at h1;omega
def wU:Nat->List (List UInt8)->List Nat
 |_,[]=>[]
 |a,x::ps=>(a+x.length)::wU (a+x.length) ps
theorem OI: ∀(a:Nat) (ps:List (List UInt8)),(wU a ps).length=ps.length
 |_,[]=>rfl
 |a,x::ps=>by rw[wU,aMv,aMv,OI]
theorem TR: ∀(ps:List (List UInt8)) (a j:Nat),j<=ps.length->(a::wU a ps).getD j 0=a+(ps.take j).flatten.length
 |_,a,0,_=>by simp
 |[],_,_+1,h=>by simp at h
 |x::ps,a,j+1,h=>by
  rw[wU,List.getD_cons_succ,TR ps (a+x.length) j (by simpa using h),List.take_succ_cons,aNj,aMu];omega
theorem aJF (ps:List (List UInt8)) (j:Nat):ps.flatten=(ps.take j).flatten++(ps.drop j).flatten:=by
 rw[<-List.flatten_append,aNE]
theorem a4G {s a b c:List UInt8}(h:s=a++(b++c)):pF s (a.length:Nat) ((a.length+b.length:Nat):Int)=b:=by
 unfold pF;rw[aM6,aM6,h,aN9,aNb,aNP]
theorem aCy {s:List UInt8}{l:List Nat}{j:Nat}(h:j<l.length):(yA s l)[j]? =some (pc s l j):=by
 unfold yA;rw[List.getElem?_map,List.getElem?_range h];rfl
section
variable {s p0 t:List UInt8}{ps:List (List UInt8)}(hs:s=p0++(ps.flatten++t))
include hs
theorem aJG:pc s (p0.length::wU p0.length ps) 0=p0:=by
 have h:s=[]++(p0++(ps.flatten++t)):=hs;have:=a4G h;simp only[aMF,aM3] at this;exact this
theorem aJH:(yA s (p0.length::wU p0.length ps)).drop 1=ps:=by
 apply List.ext_getElem?;intro j;rw[List.getElem?_drop];by_cases hj:j<ps.length
 ·rw[aCy (by rw[aMv,OI];omega),aMA hj];congr 1;have e1:(p0.length::wU p0.length ps).getD j 0=p0.length+(ps.take j).flatten.length:=TR ps _ j (by omega);have e2:(p0.length::wU p0.length ps).getD (1+j) 0=p0.length+(ps.take (1+j)).flatten.length:=TR ps _ _ (by omega);have e3:(ps.take (1+j)).flatten=(ps.take j).flatten++ps[j]:=by
   rw[Nat.add_comm,List.take_add_one,aMA hj,List.flatten_append];simp
  have e4:s=(p0++(ps.take j).flatten)++(ps[j]++((ps.drop (j+1)).flatten++t)):=by
   rw[hs,aJF ps j,aMU hj,aNj];simp only[aMC]
  have e5:=a4G e4;rw[aMu] at e5;show pF s ((if 1+j=0 then 0 else(p0.length::wU p0.length ps).getD (1+j-1) 0:Nat):Int) (((p0.length::wU p0.length ps).getD (1+j) 0:Nat):Int)=_;rw[if_neg (by omega),aNb,e1,e2,e3,aMu,<-aNc];exact e5
 ·rw[aNG (show ps.length<=j by omega),aNG];simp [OI];omega
theorem aJI:pF s (G3 (p0.length::wU p0.length ps):Nat) (s.length:Int)=t:=by
 have e1:G3 (p0.length::wU p0.length ps)=p0.length+ps.flatten.length:=by
  unfold G3;rw[aMv,OI,Nat.add_sub_cancel,TR ps _ _ (Nat.le_refl _),List.take_length]
 have e4:s=(p0++ps.flatten)++(t++[]):=by rw[hs];simp
 have e5:=a4G e4;rw[aMu] at e5;have e6:s.length=p0.length+ps.flatten.length+t.length:=by rw[hs];simp only[aMu];omega
 rw[e1,e6];exact e5
end
theorem a4H {s:List UInt8}{a b:Nat}(h:a<=b):s.take a++pF s (a:Int) (b:Int)=s.take b:=by
 unfold pF;rw[aM6,aM6];have e:b=a+(b-a):=by omega
 conv=>rhs;rw[e,List.take_add]
theorem aCz {s:List UInt8}{l:List Nat}(hs:l.Pairwise (·<=·)): ∀(k:Nat),k<l.length->((List.range (k+1)).map (pc s l)).flatten=s.take (l.getD k 0)
 |0,h=>by
  show (pF s ((0:Nat):Int) _)++[]=_;rw[List.append_nil];have:=a4H (s:=s) (aNm (l.getD 0 0));rw[List.take_zero,List.nil_append] at this;exact this
 |k+1,h=>by
  rw[List.range_succ,List.map_append,List.flatten_append,aCz hs k (by omega)];show _++((pc s l (k+1))++[])=_;rw[List.append_nil];exact a4H (aCn hs (by omega) h)
theorem aJJ {s:List UInt8}{l:List Nat}(hne:l≠[]) (hs:l.Pairwise (·<=·)) (hle: ∀x∈l,x<=s.length):AZ (pc s l 0) ((yA s l).drop 1) (pF s (G3 l:Nat) (s.length:Int))=s:=by
 have hpos:0<l.length:=aNN.2 hne;have h1:=aCz (s:=s) hs (l.length-1) (by omega);rw[show l.length-1+1=l.length by omega] at h1;have h2:(yA s l).flatten=pc s l 0++((yA s l).drop 1).flatten:=by
  have e:yA s l=pc s l 0::(yA s l).drop 1:=by
   cases hp:yA s l with
   |nil=>
    have:=aM0 List.length hp;simp at this;exact absurd this hne
   |cons x r=>
    have:=aCy (s:=s) hpos;rw[hp] at this;rw[aMy this];rfl
  conv=>lhs;rw[e,aNj]
 have h3:=a4H (s:=s) (TJ hle (show l.length-1<l.length by omega));rw[List.take_length] at h3;unfold AZ;rw[<-aMC,<-h2];show ((List.range l.length).map (pc s l)).flatten++_=s;rw[h1];exact h3
theorem EM {s:List UInt8}{r:List UInt8×Bool}(h:BT s=some r) (hr:r.2=true):rN r.1=true:=by
 unfold BT at h;obtain⟨u,_,h⟩:=Vc.pC h;split at h
 ·cases h;simp only[aMz,aMw] at hr;have hf:pJ u.1:=by unfold pJ;omega
  rw[<-(a3X u.1 hf).2];simp only[aMz,aMw];exact hr.2
 ·cases h
theorem aJK {s:List UInt8}{q:Int×List UInt8×List UInt8×Bool}(h:HW s=some q) (hb:q.2.2.2=false):rN q.2.2.1=true/\q.1≠9:=by
 unfold HW at h;obtain⟨u,_,h⟩:=Vc.pC h;split at h
 ·cases h;exact⟨by decide,by decide⟩
 ·obtain⟨t,ht,h⟩:=Vc.pC h;split at h
  ·cases h;exact⟨EM (r:=t) ht (by simpa using hb),by simp⟩
  ·split at h
   ·cases h;exact⟨EM (r:=t) ht (by simpa using hb),by simp⟩
   ·split at h
    ·cases h;exact⟨EM (r:=t) ht (by simpa using hb),by simp⟩
    ·split at h
     ·cases h;exact⟨EM (r:=t) ht (by simpa using hb),by simp⟩
     ·obtain⟨_,_,h⟩:=Vc.pC h;split at h
      ·split at h
       ·cases h;exact⟨EM (r:=t) ht (by simpa using hb),by simp⟩
       ·cases h
      ·cases h;exact⟨EM (r:=t) ht (by simpa using hb),by simp⟩
theorem aJL {line:List UInt8}{q:Int×List UInt8×List UInt8×Bool}(h:uA line=some q) (hb:q.2.2.2=false):rN q.2.2.1=true/\(q.1=9->rN q.2.1=true):=by
 unfold uA at h;obtain⟨s,_,h⟩:=Vc.pC h;split at h
 ·cases h;exact⟨by decide,fun e=>absurd e (by decide)⟩
 ·obtain⟨_,_,h⟩:=Vc.pC h;split at h
  ·split at h
   ·cases h;exact⟨by decide,fun e=>absurd e (by decide)⟩
   ·split at h
    ·split at h
     ·cases h;exact⟨by decide,fun e=>absurd e (by decide)⟩
     ·split at h
      ·obtain⟨t,ht,h⟩:=Vc.pC h;cases h;exact⟨EM (r:=t) ht (by simpa using hb),fun e=>absurd e (by simp)⟩
      ·cases h
    ·cases h
  ·obtain⟨_,_,h⟩:=Vc.pC h;split at h
   ·cases h;exact⟨by decide,fun e=>absurd e (by decide)⟩
   ·obtain⟨_,_,h⟩:=Vc.pC h;split at h
    ·obtain⟨u,hu,h⟩:=Vc.pC h;cases h;obtain⟨g1,g2⟩:=aJK hu hb;exact⟨g1,fun e=>absurd e g2⟩
    ·split at h
     ·cases h;exact⟨by decide,fun e=>absurd e (by decide)⟩
     ·obtain⟨u,_,h⟩:=Vc.pC h;split at h
      ·cases h;exact⟨by decide,fun e=>absurd e (by decide)⟩
      ·obtain⟨t1,h1,h⟩:=Vc.pC h;obtain⟨t2,h2,h⟩:=Vc.pC h;cases h;simp only[aNC,aNQ] at hb;exact⟨EM (r:=t2) h2 hb.2,fun _=>EM (r:=t1) h1 hb.1⟩
theorem aJM {s:List UInt8}(h:val (BQ s)=true):pJ s:=by
 by_cases hl:s.length<=40
 ·unfold pJ;omega
 ·exfalso;unfold BQ at h;rw[if_pos (fun _=>⟨aNA _,by omega⟩),if_pos (by simp;omega)] at h;exact aM9 h
theorem s3 {α:Type}{c:Prop}[Decidable c] {a b r:α}(h:(if c then a else b)=r):(c/\a=r)\/(¬c/\b=r):=by
 by_cases hc:c
 ·rw[if_pos hc] at h;exact .inl ⟨hc,h⟩
 ·rw[if_neg hc] at h;exact .inr ⟨hc,h⟩
abbrev BX (x:H7):Prop:=L5 x.1.2.1 [] x.1.2.2.2.1 x.1.2.2.2.2.1 x.1.2.2.2.2.2.1 x.1.2.2.2.2.2.2.1
abbrev aJN:=(List UInt8)×(List (List UInt8))×(List (List UInt8))×Int×(List pP)×Bool×Bool×Int
theorem a4I {x:H7}{p:JM}{r:aJN}(h:sX x p=some r) (hi:BX x) (hp:p.2.2.2.1=false->rN p.2.2.1=true) (he:r.2.2.2.2.2.2.2=0):L5 r.1 [] r.2.1 r.2.2.1 r.2.2.2.1 r.2.2.2.2.1:=by
 have f1:pJ x.1.2.2.2.2.1:=by have:=(TP hi.fg).1;unfold pJ;omega
 have f2:pJ x.1.2.2.2.2.2.2.1:=by have:=(G4 hi.fd).1;unfold pJ;omega
 unfold sX at h;rcases s3 h with⟨hc0,h⟩ |⟨hc0,h⟩
 ·rcases s3 h with⟨hc1,h⟩ |⟨hc1,h⟩
  ·cases h;exact absurd he (by simp)
  ·have hb:=hc1;have hv:=hp (by simpa using hb);rcases s3 h with⟨hc2,h⟩ |⟨hc2,h⟩
   ·cases h;exact absurd he (by simp)
   ·have h20:=hc2;rcases s3 h with⟨hc3,h⟩ |⟨hc3,h⟩
    ·rcases s3 h with⟨hc4,h⟩ |⟨hc4,h⟩
     ·cases h;exact⟨hi.sr,hi.tg,by rw[List.nil_append];exact aJy hi.cm (fun hh=>h20 (aNk (by omega))) hv,hi.fg,hi.st,hi.fd⟩
     ·cases h
    ·cases h
 ·rcases s3 h with⟨hc5,h⟩ |⟨hc5,h⟩
  ·rcases s3 h with⟨hc6,h⟩ |⟨hc6,h⟩
   ·cases h;exact absurd he (by simp)
   ·have hb:=hc6;have hv:=hp (by simpa using hb);rcases s3 h with⟨hc7,h⟩ |⟨hc7,h⟩
    ·cases h;exact absurd he (by simp)
    ·cases h;exact⟨hv,hi.tg,hi.cm,hi.fg,hi.st,hi.fd⟩
  ·rcases s3 h with⟨hc8,h⟩ |⟨hc8,h⟩
   ·rw[SX,if_pos wE] at h;rcases s3 h with⟨hc9,h⟩ |⟨hc9,h⟩
    ·cases h;exact absurd he (by simp)
    ·have hs:=hc9;rcases s3 h with⟨hc10,h⟩ |⟨hc10,h⟩
     ·cases h;exact absurd he (by simp)
     ·rw[aMs] at h;cases h;have hs': ¬vD p.2.2.1<0:=by
       intro hh;apply hs;show (p.2.2.2.1||decide (vD p.2.2.1<0))=true
       simp [hh]
      exact⟨hi.sr,hi.tg,hi.cm,hi.fg,aJB _ hs',hi.fd⟩
   ·rcases s3 h with⟨hc11,h⟩ |⟨hc11,h⟩
    ·rcases s3 h with⟨hc12,h⟩ |⟨hc12,h⟩
     ·rcases s3 h with⟨hc13,h⟩ |⟨hc13,h⟩
      ·cases h;exact absurd he (by simp)
      ·have hs:=hc13;cases hb:p.2.2.2.1 with
       |true=>exact absurd (by simp [hb]) hs
       |false=>
        have hv:=hp hb;have hf:pJ p.2.2.1:=by have:=vG hv;unfold pJ;omega
        rw[FV _ hf,hb] at hs;have hn:s8 p.2.2.1=true:=by
         cases hq:s8 p.2.2.1 with
         |true=>rfl
         |false=>rw[hq] at hs;exact absurd rfl hs
        rw[a4n _ _ f1,aMs] at h;rcases s3 h with⟨hc14,h⟩ |⟨hc14,h⟩
        ·cases h;exact absurd he (by simp)
        ·have hany:=hc14;rcases s3 h with⟨hc15,h⟩ |⟨hc15,h⟩
         ·cases h;exact absurd he (by simp)
         ·have h20:=hc15;rw[a4o f1,aMs] at h;cases h;exact⟨hi.sr,hi.tg,hi.cm,aJz hi.fg (fun hh=>h20 (aNk (by omega))) hn hany,hi.st,hi.fd⟩
     ·cases h
    ·rcases s3 h with⟨hc16,h⟩ |⟨hc16,h⟩
     ·rcases s3 h with⟨hc17,h⟩ |⟨hc17,h⟩
      ·rcases s3 h with⟨hc18,h⟩ |⟨hc18,h⟩
       ·cases h;exact absurd he (by simp)
       ·have hs:=hc18;cases hb:p.2.2.2.1 with
        |true=>exact absurd (by simp [hb]) hs
        |false=>
         have hv:=hp hb;have hn:val (BQ p.2.1)=true:=by
          cases hq:val (BQ p.2.1) with
          |true=>rfl
          |false=>exact absurd (by rw[hq,hb];rfl) hs
         have hnk:s8 p.2.1=true:=by
          have hf:=aJM hn;rw[FV _ hf] at hn;exact hn
         rw[a3N _ _ f2,aMs] at h;rcases s3 h with⟨hc19,h⟩ |⟨hc19,h⟩
         ·cases h;exact absurd he (by simp)
         ·have hany:=hc19;rw[a3M] at hany;rcases s3 h with⟨hc20,h⟩ |⟨hc20,h⟩
          ·cases h;exact absurd he (by simp)
          ·have h20:=hc20;rw[a3O _ _ _ f2,aMs] at h;cases h;exact⟨hi.sr,hi.tg,hi.cm,hi.fg,hi.st,aJA hi.fd (fun hh=>h20 (aNk (by omega))) hnk hv hany⟩
      ·cases h
     ·cases h;exact hi
theorem aJO {c:vB}{x:H7}{p:JM}{r:List rC×Int}(h:DM c x p=some r) (hi:BX x) (hes:TQ c.2.2.2.1) (hp:p.2.2.2.1=false->rN p.2.2.1=true/\rN p.2.1=true) (he:r.2=0):TQ r.1/\r.1.length=c.2.2.2.1.length+1:=by
 unfold DM at h;rcases s3 h with⟨hc0,h⟩ |⟨hc0,h⟩
 ·cases h;exact absurd he (by simp)
 ·simp only[aNH,aMw,not_or,aNr] at hc0;obtain⟨⟨hb,hne⟩,h200⟩:=hc0;obtain⟨hv,hk⟩:=hp hb;rw[a39 _ _ (show c.2.2.2.1.length<=5000 by have:=hes.len;omega),aMs,a38] at h;rcases s3 h with⟨hc1,h⟩ |⟨hc1,h⟩
  ·cases h;exact absurd he (by simp)
  ·rcases s3 h with⟨hc2,h⟩ |⟨hc2,h⟩
   ·cases h;exact absurd he (by simp)
   ·rcases s3 h with⟨hc3,h⟩ |⟨hc3,h⟩
    ·rcases s3 h with⟨hc4,h⟩ |⟨hc4,h⟩
     ·cases h;have hm: ¬(1000:Int)<=(c.2.2.2.1.length:Int):=fun hh=>hc2 (aNk hh);refine⟨⟨?_,fun y hy=> ?_,?_⟩,?_⟩
      ·simp only[List.nil_append,aMu,aNh];omega
      ·rw[List.nil_append] at hy;rcases aM4.1 hy with hy|hy
       ·exact hes.ok y hy
       ·rw[aME.1 hy];refine aJC (sr:=x.1.2.1) (tg:=p.2.2.1) (cm:=x.1.2.2.2.1) (fg:=x.1.2.2.2.2.1) (st:=x.1.2.2.2.2.2.1) (fd:=x.1.2.2.2.2.2.2.1) ?_ hk ⟨hi.sr,hv,hi.cm,hi.fg,hi.st,hi.fd⟩;unfold I8;simp only[aMz,aMV,aM7,aMw];exact⟨hne,by omega⟩
      ·rw[List.nil_append,aNR];refine⟨hes.pw,aOb _ _,fun a ha b hb2=> ?_⟩;rw[aME.1 hb2];intro e;exact hc1 (List.any_eq_true.2 ⟨a,ha,aNk e⟩)
      ·simp only[List.nil_append,aMu,aNh]
     ·cases h
    ·cases h
theorem aJP {v:List UInt8}(h:val (K7 v)=true) (ht:rN v=true):uB v=true:=by
 have hf:pJ v:=by have:=vG ht;unfold pJ;omega
 rw[SU _ hf] at h;exact h
def a4J (t:List UInt8):Prop:=t=[]\/uB t=true
abbrev aCA:=(List UInt8)×(List (List UInt8))×(List pP)×(List UInt8)×(List UInt8)×(List UInt8)×(List (List UInt8))×(List (List UInt8))×Int×(List pP)×Bool×Bool×Int×Bool×Int
def aJQ (r:aCA):Prop:=
 L5 r.2.2.2.2.1 [] r.2.2.2.2.2.2.1 r.2.2.2.2.2.2.2.1 r.2.2.2.2.2.2.2.2.1 r.2.2.2.2.2.2.2.2.2.1/\
 ((r.2.2.2.2.2.2.2.2.2.2.2.2.2.1=false/\a4J r.1)\/(r.2.2.2.2.2.2.2.2.2.2.2.2.2.1=true/\uB r.1=true/\vR r.2.1=true/\uY r.2.2.1=true))
theorem aJR {c:vB}{x:H7}{p:JM}{r:aCA}(h:wZ c x p=some r) (hi:BX x) (hc:a4J c.1) (hp:p.2.2.2.1=false->rN p.2.2.1=true) (he:r.2.2.2.2.2.2.2.2.2.2.2.2.2.2=0):aJQ r:=by
 unfold wZ at h;obtain⟨b1,_,h⟩:=Vc.pC h;rcases s3 h with⟨_,h⟩ |⟨_,h⟩
 ·cases h;exact⟨hi,.inl ⟨rfl,hc⟩⟩
 ·obtain⟨b2,_,h⟩:=Vc.pC h;rcases s3 h with⟨_,h⟩ |⟨_,h⟩
  ·obtain⟨a,ha,h⟩:=Vc.pC h;cases h;exact⟨a4I ha hi hp he,.inl ⟨rfl,hc⟩⟩
  ·rcases s3 h with⟨_,h⟩ |⟨_,h⟩
   ·rcases s3 h with⟨_,h⟩ |⟨_,h⟩
    ·rcases s3 h with⟨hb,h⟩ |⟨hb,h⟩
     ·cases h;exact absurd he (by simp)
     ·rcases s3 h with⟨_,h⟩ |⟨_,h⟩
      ·cases h;exact absurd he (by simp)
      ·cases h;simp only[aNH,aMV,not_or,aNr,Bool.not_eq_false] at hb;exact⟨hi,.inl ⟨rfl,.inr (aJP hb.2 (hp hb.1))⟩⟩
    ·cases h
   ·rcases s3 h with⟨_,h⟩ |⟨_,h⟩
    ·rcases s3 h with⟨ht,h⟩ |⟨ht,h⟩
     ·cases h;exact absurd he (by simp)
     ·cases h;have ht':c.1≠[]:=fun e=>ht (aNk e);exact⟨a4D,.inr ⟨rfl,hc.resolve_left ht',hi.cm,hi.fd⟩⟩
    ·cases h;exact absurd he (by simp)
structure A3 (ends:List Int) (tag:List UInt8) (cms:List (List UInt8)) (fds:List qO) (es:List tH) (src:List UInt8) (cm fl:List (List UInt8)) (st:Int) (fd:List qO):Prop where
 blk:L5 src [] cm fl st fd
 out:ends=[]->a4J tag/\es=[]
 inn:ends≠[]->uB tag=true/\vR cms=true/\uY fds=true/\TQ es/\ends.length=es.length+1
abbrev a4K (b:RS):Prop:=A3 b.1 b.2.2.2.1 b.2.2.2.2.1 b.2.2.2.2.2.1 b.2.2.2.2.2.2.1 b.2.2.2.2.2.2.2.2.1 b.2.2.2.2.2.2.2.2.2.2.1 b.2.2.2.2.2.2.2.2.2.2.2.1 b.2.2.2.2.2.2.2.2.2.2.2.2.1 b.2.2.2.2.2.2.2.2.2.2.2.2.2.1
theorem aJS {line:List UInt8}{b b':RS}(h:wT line b=some (.inl b')) (hi:a4K b):a4K b':=by
 unfold wT at h;obtain⟨q,hq,h⟩:=Vc.pC h;obtain⟨r,hr,h⟩:=Vc.pC h;have hp:=aJL hq;obtain⟨b1,b2,b3,b4,b5,b6,b7,b8,b9,b10,b11,b12,b13,b14,FY,b16,b17⟩:=b;rcases s3 h with⟨_,h⟩ |⟨hz,h⟩
 ·cases h
 ·have hz':r.1=0:=by simpa using hz
  unfold tU at hr;rcases s3 hr with⟨hlen,hr⟩ |⟨hlen,hr⟩
  ·have hb1:b1=[]:=by
    have:b1.length=0:=by simpa using hlen
    exact aNp.1 this
   subst hb1;obtain⟨w,hw,hr⟩:=Vc.pC hr;cases hr;have ho:=aJR hw hi.blk (hi.out rfl).1 (fun e=>(hp e).1) hz';have hes:=(hi.out rfl).2;dsimp only at hes;subst hes;rcases ho with⟨o1,⟨o2,o3⟩ |⟨o2,o3,o4,o5⟩⟩
   ·dsimp only at h;rw[if_neg (by rw[o2];decide)] at h;cases h;exact⟨o1,fun _=>⟨o3,rfl⟩,fun e=>absurd rfl e⟩
   ·dsimp only at h;rw[if_pos o2] at h;rcases s3 h with⟨_,h⟩ |⟨_,h⟩
    ·cases h;exact⟨o1,fun e=>absurd e (by simp),fun _=>⟨o3,o4,o5,⟨aNm _,fun x hx=>(by cases hx),List.Pairwise.nil⟩,rfl⟩⟩
    ·cases h
  ·have hb1:b1≠[]:=fun e=>hlen (by simp [e]);obtain⟨i1,i2,i3,i4,i5⟩:=hi.inn hb1;rcases s3 hr with⟨h9,hr⟩ |⟨h9,hr⟩
   ·obtain⟨w,hw,hr⟩:=Vc.pC hr;cases hr;have h9':q.1=9:=by simpa using h9
    obtain⟨g1,g2⟩:=aJO hw hi.blk i4 (fun e=>⟨(hp e).1,(hp e).2 h9'⟩) hz';dsimp only at h;rw[if_pos rfl] at h;rcases s3 h with⟨_,h⟩ |⟨_,h⟩
    ·cases h;refine⟨a4D,fun e=>absurd e (by simp),fun _=>⟨i1,i2,i3,g1,?_⟩⟩;dsimp only at i5 g2⊢;rw[aMu,aNh,g2,i5]
    ·cases h
   ·rcases s3 hr with⟨_,hr⟩ |⟨_,hr⟩
    ·obtain⟨w,hw,hr⟩:=Vc.pC hr;rcases s3 hr with⟨_,hr⟩ |⟨_,hr⟩
     ·cases hr;have hA:=a4I hw hi.blk (fun e=>(hp e).1) hz';dsimp only at h;rw[if_neg (by decide)] at h;cases h;exact⟨hA,fun e=>absurd e hb1,fun _=>⟨i1,i2,i3,i4,i5⟩⟩
     ·cases hr;have hA:=a4I hw hi.blk (fun e=>(hp e).1) hz';dsimp only at h;rw[if_neg (by decide)] at h;cases h;exact⟨hA,fun e=>absurd e hb1,fun _=>⟨i1,i2,i3,i4,i5⟩⟩
    ·rcases s3 hr with⟨_,hr⟩ |⟨_,hr⟩
     ·cases hr;exact absurd hz' (by simp)
     ·cases hr;dsimp only at h;rw[if_neg (by decide)] at h;cases h;exact⟨hi.blk,fun e=>absurd e hb1,fun _=>⟨i1,i2,i3,i4,i5⟩⟩
theorem aCB: ∀(ls:List (List UInt8)) (b:RS) (f:FR),tC ls b=some (.inl f)->a4K b->A3 f.1 f.2.1 f.2.2.1 f.2.2.2.1 f.2.2.2.2.1 f.2.2.2.2.2.2.1 f.2.2.2.2.2.2.2.2.1 f.2.2.2.2.2.2.2.2.2.1 f.2.2.2.2.2.2.2.2.2.2.1 f.2.2.2.2.2.2.2.2.2.2.2.1
 |[],b,f,h,hi=>by
  cases h;exact hi
 |l::ls,b,f,h,hi=>by
  unfold tC at h;obtain⟨w,hw,h⟩:=Vc.pC h;cases w with
  |inl b'=>exact aCB ls b' f h (aJS hw hi)
  |inr e=>cases h
theorem aCC: ∀(ls:List (List UInt8)) (b:RS) (e:ER7),tC ls b=some (.inr e)->e.2.2.2.2.2.2≠0/\e.1=[]/\e.2.1=[]/\e.2.2.1=[]/\e.2.2.2.1=[]/\e.2.2.2.2.1=[]
 |[],b,e,h=>by cases h
 |l::ls,b,e,h=>by
  unfold tC at h;obtain⟨w,hw,h⟩:=Vc.pC h;cases w with
  |inl b'=>exact aCC ls b' e h
  |inr e'=>
   cases h;unfold wT at hw;obtain⟨q,_,hw⟩:=Vc.pC hw;obtain⟨r,_,hw⟩:=Vc.pC hw;rcases s3 hw with⟨hz,hw⟩ |⟨_,hw⟩
   ·cases hw;exact⟨by simpa using hz,rfl,rfl,rfl,rfl,rfl⟩
   ·rcases s3 hw with⟨_,hw⟩ |⟨_,hw⟩
    ·rcases s3 hw with⟨_,hw⟩ |⟨_,hw⟩
     ·cases hw
     ·cases hw
    ·cases hw
theorem aCD {s:List UInt8}(hsm:s.length<=4000000000): ∃v,FS s=some v/\(v.2.2.2.2.2.2=0->vS (v.1,(v.2.1,(v.2.2.1,(v.2.2.2.1,()))))=true/\v.2.2.2.2.1.length=v.2.2.2.1.length+1)/\(v.2.2.2.2.2.2≠0->v.1=[]/\v.2.1=[]/\v.2.2.1=[]/\v.2.2.2.1=[]/\v.2.2.2.2.1=[]):=by
 obtain⟨v,h0,_⟩:=TB hsm;refine⟨v,h0,?_⟩;unfold FS at h0;rw[a4l hsm,aMs] at h0;obtain⟨w,hw,h0⟩:=Vc.xK h0;have hw':tC (LN s) IE=some w:=by rw[<-aB1 hsm];exact hw
 cases w with
 |inr e=>
  cases h0;obtain⟨e1,e2⟩:=aCC _ _ _ hw';exact⟨fun h=>absurd h e1,fun _=>e2⟩
 |inl f=>
  have hi:=aCB _ _ _ hw' ⟨a4D,fun _=>⟨.inl rfl,rfl⟩,fun e=>absurd rfl e⟩;obtain⟨f1,f2,f3,f4,f5,f6,f7,f8,f9,f10,f11,f12,f13,f14,f15⟩:=f;dsimp only at h0;rcases s3 h0 with⟨hl,h0⟩ |⟨hl,h0⟩
  ·cases h0;exact⟨fun h=>absurd h (by simp),fun _=>⟨rfl,rfl,rfl,rfl,rfl⟩⟩
  ·have hne:f1≠[]:=fun e=>hl (by simp [e]);rcases s3 h0 with⟨_,h0⟩ |⟨_,h0⟩
   ·cases h0;exact⟨fun h=>absurd h (by simp),fun _=>⟨rfl,rfl,rfl,rfl,rfl⟩⟩
   ·cases h0;obtain⟨i1,i2,i3,i4,i5⟩:=hi.inn hne;exact⟨fun _=>⟨aJD i1 i2 i3 i4,i5⟩,fun h=>absurd rfl h⟩
theorem aJT:KL=some true:=by kernel_rfl
def rF (a b:List UInt8):List UInt8:=((a++[32,61,32])++qU 1 b)++[10]
theorem EN {a b:List UInt8}(ha:a.length≤36002) (hb:b.length≤6000):(rF a b).length≤72006:=by
  have:=EL (n:=1) (.inl rfl) b;simp only[rF,aMu,aMv,aMF];omega
theorem a4L {s:List UInt8}(h:s.length≤6000):CM (1:Int) s=some (qU 1 s):=aJc (n:=1) (.inl rfl) (G1 h)
theorem TS {b:List Int}{s:List UInt8}(h:b.length+s.length≤140737488355328):wY (b,()) s=some ():=by
  unfold wY;exact if_pos h
theorem L6 {w:List Int}{a b:List UInt8}(ha:a.length≤36002) (hb:b.length≤6000) (hw:w.length≤100000000000):yM (w,()) a b=some (w++rG (rF a b)):=by
  have h1:=EN ha hb;have h2:=EL (n:=1) (.inl rfl) b;unfold rF at*;unfold yM;rw[if_pos (L3 (n:=1000000000) (by simp only[aMu,aMv,aMF];omega) (by decide)),a4L hb,aMs,if_pos (L3 (n:=1000000000) (by simp only[aMu,aMv,aMF];omega) (by decide)),if_pos (L3 (n:=1000000000) (by simp only[aMu,aMv,aMF];omega) (by decide)),TS (by omega),aMs]
def sM (s:List UInt8):List UInt8:=([35,46,32]++qU 1 s)++[10]
def CU (l:List (List UInt8)):List UInt8:=l.flatMap sM
theorem aCE {s:List UInt8}(h:s.length≤6000):(sM s).length≤36004:=by
  have:=EL (n:=1) (.inl rfl) s;simp only[sM,aMu,aMv,aMF];omega
theorem a4M {l:List (List UInt8)}(h:EK l):(CU l).length≤216024000:=by
  have:=G2 (l:=l) (h:=sM) (B:=36004) fun x hx=>aCE (h.2 x hx);have h1:=h.1;unfold CU
  calc _≤l.length*36004:=this
    _≤6000*36004:=aOn _ h1
theorem aCF {l:List (List UInt8)}(h:EK l) {w:List Int}(hw:w.length≤1000000000):E2 (w,()) l=some (w++rG (CU l)):=by
  have hl:=h.1
  have k:=OF (f:=NS l) (fun i b=>(i,b)) (fun b=>b) (n:=l.length) (M:=100000000000) (B:=36004) (fun i=>rG (sM (l.getD i []))) (fun i hi=>by rw[zO];exact aCE (TK h hi)) w (by omega) (fun i s hi hM=>by
    have h1:=EL (n:=1) (.inl rfl) (l.getD i []);have h2:=TK h hi;unfold NS;dsimp only;rw[if_pos (tD hi),if_pos (rW hi),a4r,a4L h2,aMs,if_pos (L3 (n:=1000000000) (by simp only[aMu,aMv,aMF];omega) (by decide)),if_pos (L3 (n:=1000000000) (by simp only[aMu,aMv,aMF];omega) (by decide)),TS (by simp only[aMu,aMv,aMF];omega),aMs,if_pos (sS (by omega))];rfl) (fun b=>by
    unfold NS;dsimp only;rw[if_neg (vP _)])
  unfold E2;rw[k,TG,TF (l:=l) (d:=[]) sM];rfl
def tP (f:qO):List UInt8:=rF ([33,58]++f.1) f.2.1
def EO (l:List qO):List UInt8:=l.flatMap tP
theorem aCG {f:qO}(h:f.1.length≤6000∧f.2.1.length≤6000):(tP f).length≤72006:=EN (by simp only[aMu,aMv,aMF];omega) h.2
theorem TT {l:List qO}(h:IF l):(EO l).length≤432036000:=by
  have:=G2 (l:=l) (h:=tP) (B:=72006) fun x hx=>aCG (h.2 x hx);have h1:=h.1;unfold EO
  calc _≤l.length*72006:=this
    _≤6000*72006:=aOn _ h1
theorem aCH {l:List qO}(h:IF l) {w:List Int}(hw:w.length≤2000000000):E3 (w,()) l=some (w++rG (EO l)):=by
  have hl:=h.1
  have k:=OF (f:=NT l) (fun i b=>(i,b)) (fun b=>b) (n:=l.length) (M:=10000000000) (B:=72006) (fun i=>rG (tP (l.getD i fD))) (fun i hi=>by rw[zO];exact aCG (aCo h hi)) w (by omega) (fun i s hi hM=>by
    have h2:=aCo h hi;unfold NT;dsimp only;rw[if_pos (tD hi),if_pos (rW hi),aB6,if_pos (L3 (n:=1000000000) (by simp only[aMu,aMv,aMF];omega) (by decide)),L6 (by simp only[aMu,aMv,aMF];omega) h2.2 (by omega),aMs,if_pos (sS (by omega))];rfl) (fun b=>by
    unfold NT;dsimp only;rw[if_neg (vP _)])
  unfold E3;rw[k,TG,TF (l:=l) (d:=fD) tP];rfl
abbrev xB:List UInt8:=[33,102,108,97,103]
abbrev OJ:List UInt8:=[33,115,111,117,114,99,101]
abbrev OK:List UInt8:=[33,115,116,97,116,101]
abbrev B0:List UInt8:=[33,116,97,103]
def II (l:List (List UInt8)):List UInt8:=l.flatMap (rF xB)
theorem aCI {l:List (List UInt8)}(h:EK l):(II l).length≤432036000:=by
  have:=G2 (l:=l) (h:=rF xB) (B:=72006) fun x hx=>EN (by decide) (h.2 x hx);have h1:=h.1;unfold II
  calc _≤l.length*72006:=this
    _≤6000*72006:=aOn _ h1
theorem aJU {x:tH}(h:L1 x) {w:List Int}(hw:w.length≤2000000000):q6 (KG x) ((0:Int),w)=some (w++rG (II x.2.2.2.2.1)):=by
  have hl:=h.flg.1
  have k:=OF (f:=KG x) (fun i b=>(i,b)) (fun b=>b) (n:=x.2.2.2.2.1.length) (M:=10000000000) (B:=72006) (fun i=>rG (rF xB (x.2.2.2.2.1.getD i []))) (fun i hi=>by rw[zO];exact EN (by decide) (TK h.flg hi)) w (by omega) (fun i s hi hM=>by
    unfold KG;dsimp only;rw[if_pos (tD hi),if_pos (rW hi),a4r,L6 (by decide) (TK h.flg hi) (by omega),aMs,if_pos (sS (by omega))]) (fun b=>by
    unfold KG;dsimp only;rw[if_neg (vP _)])
  rw[k,TG,TF (l:=x.2.2.2.2.1) (d:=[]) (rF xB)];rfl
def EQ (x:tH):List UInt8:=[10]++CU x.2.2.2.1
def ES (x:tH):List UInt8:=EQ x++(if x.2.1=[] then[] else rF OJ x.2.1)
def IJ (x:tH):List UInt8:=ES x++(if x.2.2.2.2.2.1=0 then[] else rF OK (pU .str vC x.2.2.2.2.2.1))
def tI (x:tH):List UInt8:=((IJ x++II x.2.2.2.2.1)++EO x.2.2.2.2.2.2.1)++rF (qU 1 x.1) x.2.2.1
section
variable {x:tH}(h:L1 x) (h0:0≤x.2.2.2.2.2.1) (h4:x.2.2.2.2.2.1≤4)
include h
theorem aCJ:(EQ x).length≤216024001:=by
  have h2:=a4M h.com;simp only[EQ,aMu,aMv,aMF];omega
theorem aCK:(ES x).length≤216096007:=by
  have h1:=aCJ h;have h2:=EN (a:=OJ) (by decide) h.src;unfold ES;rw[aMu];split
  ·simp only[aMF];omega
  ·omega
theorem aCL:(qU 1 x.1).length≤36002:=by
  have:=EL (n:=1) (.inl rfl) x.1;have:=h.id;omega
include h0 h4
theorem aCM:(IJ x).length≤216168013:=by
  have h1:=aCK h;have h2:=EN (a:=OK) (b:=pU .str vC x.2.2.2.2.2.1) (by decide) (by have:=a4z h0 h4;omega);unfold IJ;rw[aMu];split
  ·simp only[aMF];omega
  ·omega
theorem aJV:(tI x).length≤2000000000:=by
  have h1:=aCM h h0 h4;have h2:=aCI h.flg;have h3:=TT h.fld;have h5:=EN (aCL h) h.tgt;simp only[tI,aMu];omega
theorem aJW:HS x=some (tI x):=by
  have lA:=aCJ h;have lB:=aCK h;have lC:=aCM h h0 h4;have lf:=aCI h.flg;have lg:=TT h.fld;have s4:=a4z h0 h4
  have eA:([]:List Int)++rG ([10]:List UInt8)++rG (CU x.2.2.2.1)=rG (EQ x):=by
    unfold EQ;rw[AB,List.nil_append]
  have eB: ∀K:List Int→Option (List UInt8),((if (!decide (x.2.1=([]:List UInt8)))=true then(yM (rG (EQ x),()) ([33,115,111,117,114,99,101]:List UInt8) x.2.1).bind fun O=>some (O) else some (rG (EQ x))).bind K)=K (rG (ES x)):=by
    intro K;unfold ES;by_cases he:x.2.1=[]
    ·rw[if_neg (by simp [he]),if_pos he,List.append_nil,aMs]
    ·rw[if_pos (by simp [he]),if_neg he,L6 (by decide) h.src (by rw[zO];omega),aMs,aMs,AB]
  have eC: ∀K:List Int→Option (List UInt8),((if (!decide (x.2.2.2.2.2.1=(0:Int)))=true then
    if 0≤x.2.2.2.2.2.1∧x.2.2.2.2.2.1<(vC.length:Int) then
     (yM (rG (ES x),()) ([33,115,116,97,116,101]:List UInt8) (pU .str vC x.2.2.2.2.2.1)).bind fun Z=>
     some (Z)
    else none
   else
    some (rG (ES x))).bind K)=K (rG (IJ x)):=by
    intro K;unfold IJ;by_cases he:x.2.2.2.2.2.1=0
    ·rw[if_neg (by simp [he]),if_pos he,List.append_nil,aMs]
    ·rw[if_pos (by simp [he]),if_neg he,if_pos ⟨h0,by show _<(5:Int);omega⟩,L6 (by decide) (by omega) (by rw[zO];omega),aMs,aMs,AB]
  unfold HS;rw[TS (by simp),aMs,aCF h.com (by simp [rG]),aMs,eA];unfold qM;refine(eB _).trans ?_;refine(eC _).trans ?_;rw[aJU h (by rw[zO];omega),aMs,aCH h.fld (by rw[aMu,zO,zO];omega),aMs,a4L h.id,aMs,L6 (aCL h) h.tgt (by simp only[aMu,zO];omega),aMs,←AB,←AB,←AB,KU];rfl
end
def uG (c:C4):List UInt8:=((CU c.2.1++rF B0 c.1)++EO c.2.2.1)++[37,37,10]
theorem aJX {c:C4}(hc:G0 c):(uG c).length≤900000000:=by
  have h1:(rF B0 c.1).length≤72006:=EN (a:=B0) (b:=c.1) (by decide) (by have:=hc.tag;omega);have h2:=a4M hc.com;have h3:=TT hc.fld;simp only[uG,aMu,aMv,aMF];omega
theorem aCN {c:C4}(hc:G0 c):CO c=some (if vS c=true then(uG c,c.2.2.2.1.map tI,0) else([],[],1)):=by
  unfold CO;rw[aI7 hc.fitP,aMs];by_cases hok:vS c=true
  · have hl:=hc.len
    have h1:(rF [33,116,97,103] c.1).length≤72006:=EN (a:=B0) (b:=c.1) (by decide) (by have:=hc.tag;omega);have h2:=a4M hc.com;have h3:=TT hc.fld
    have k:=OF (f:=NY c) (fun i b=>(i,b)) (fun b=>b) (n:=c.2.2.2.1.length) (M:=1000000) (B:=1) (fun i=>[tI (c.2.2.2.1.getD i eD)]) (fun i hi=>by simp) [] (by simp;omega) (fun i b hi hM=>by
      obtain⟨r0,r4⟩:=TL (a4A hok hi);unfold NY;dsimp only;rw[if_pos (tD hi),if_pos (rW hi),aB9,aJW (hc.ent _ (OE hi)) r0 r4,aMs,if_pos (by simp;omega),if_pos (sS (by omega))]) (fun b=>by
      unfold NY;dsimp only;rw[if_neg (vP _)])
    rw[hok,if_neg (show¬(!true)=true from by decide),if_pos rfl,aCF hc.com (by simp),aMs,L6 (by decide) (by have:=hc.tag;omega) (by simp only[List.nil_append,zO];omega),aMs,aCH hc.fld (by simp only[List.nil_append,aMu,zO];omega),aMs,TS (by simp only[List.nil_append,aMu,zO,aMv,aMF];omega),aMs,k,TF (l:=c.2.2.2.1) (d:=eD) (fun x=>[tI x])];unfold qM;rw[aMs,List.nil_append,List.nil_append,←AB,←AB,←AB,KU,aJk];rfl
  · simp only[aNr] at hok
    rw[hok,if_pos (show (!false)=true from rfl),if_neg (by decide)]
theorem aJY {c:C4}(hc:G0 c) (hok:vS c=true): ∀x∈([uG c]++c.2.2.2.1.map tI)++[[]],x.length≤2000000000:=by
  intro x hx;simp only[aM4,aME,List.mem_map] at hx;rcases hx with(rfl|⟨y,hy,rfl⟩) |rfl
  ·have:=aJX hc;omega
  · obtain⟨i,hi,rfl⟩:=aN5 hy
    have he:=a4A hok hi;rw[aMP,aMA hi] at he;obtain⟨r0,r4⟩:=TL he;have:=aJV (hc.ent _ hy) r0 r4;omega
  ·simp
def yR (c:C4):List UInt8:=AZ (uG c) (c.2.2.2.1.map tI) []
theorem aJZ {c:C4}(hc:G0 c) (hok:vS c=true):(yR c).length≤2004000000000:=by
  have h:=aJY hc hok;have hl:=hc.len
  have e:yR c=(([uG c]++c.2.2.2.1.map tI)++[[]]).flatMap (fun x=>x):=by
    unfold yR AZ;simp [List.flatMap_def];rfl
  have:=G2 (l:=([uG c]++c.2.2.2.1.map tI)++[[]]) (h:=fun x=>x) (B:=2000000000) h;rw[e];simp only[aMu,aNh,aNv] at this;omega
theorem aJ0 {c:C4}(hc:G0 c):FQ c=some (if vS c=true then(yR c,0) else([],1)):=by
  unfold FQ;rw[aCN hc,aMs];by_cases hok:vS c=true
  · have hl:=hc.len
    have:=aJZ hc hok;rw[if_pos hok,if_pos hok];dsimp only;rw[a4v (uG c,(c.2.2.2.1.map tI,([],()))) (by simp;omega) (by show (yR c).length≤_;omega),aMs];rfl
  · rw[if_neg hok,if_neg hok]
    dsimp only;rw[a4v ([],([],([],()))) (by simp) (by simp [AZ]),aMs];rfl
theorem aCO (x:UInt8) (u:List UInt8):uC x (u++[x])=u:=by unfold uC;rw[if_pos (by simp)];simp
theorem aCP {d:UInt8}: ∀(a t:List UInt8),(∀b∈a,b≠d/\b≠92)->rO d (a++t)=(rO d t).map (· +a.length)
 |[],t,_=>by simp
 |b::a,t,h=>by
  obtain⟨h1,h2⟩:=h b aMO;rw[List.cons_append,I3 h1 h2,aCP a t (fun c hc=>h c (aMH _ hc)),Option.map_map];congr 1
theorem aJ1 (z:List UInt8):rO 61 (32::61::z)=some 1:=by
 rw[I3 (by decide) (by decide),O3 rfl];rfl
theorem aCQ {a e:List UInt8}(hk: ∀t:List UInt8,rO 61 (a++t)=(rO 61 t).map (· +a.length)):CR ((a++[32,61,32])++e)=some (a,e):=by
 have e0:(a++[32,61,32])++e=a++(32::61::32::e):=by simp
 have e1:a++(32::61::32::e)=(a++[32])++(61::32::e):=by simp
 have e2:a++(32::61::32::e)=(a++[32,61])++(32::e):=by simp
 unfold CR;rw[e0,hk,aJ1];show some (uC 32 ((a++(32::61::32::e)).take (1+a.length)),zN 32 ((a++(32::61::32::e)).drop (1+a.length+1)))=_;have h1:(a++(32::61::32::e)).take (1+a.length)=a++[32]:=by rw[e1,List.take_left' (by simp;omega)]
 have h2:(a++(32::61::32::e)).drop (1+a.length+1)=32::e:=by rw[e2,List.drop_left' (by simp;omega)]
 rw[h1,h2,aCO];rfl
theorem TU {v:List UInt8}(h:rN v=true):uL (qU 1 v)=(v,true):=by
 have h1:x8 (1:Int) (qU 1 v)=(v,0,0):=aCm (n:=1) (.inl rfl) v;unfold uL;rw[h1,h];rfl
theorem a4N {b:UInt8}{u:List UInt8}(h:EE b=false):BZ ((b::u)++[10])=b::u:=by
 unfold BZ;rw[aCO,List.dropWhile_cons,h];rfl
theorem aCR {a' v:List UInt8}(hk: ∀t:List UInt8,rO 61 ((33::a')++t)=(rO 61 t).map (· +(33::a':List UInt8).length)) (hv:rN v=true) (hl:(rF (33::a') v).length<=4000000000):
  uA (rF (33::a') v)=some ((uM (33::a')).1,(uM (33::a')).2,v,false):=by
 have hz:rF (33::a') v=(33::(a'++[32,61,32]++qU 1 v))++[10]:=by
  unfold rF;simp only[List.cons_append]
 have e:((33::a')++[32,61,32])++qU 1 v=33::(a'++[32,61,32]++qU 1 v):=by simp only[List.cons_append]
 have hc:BZ (rF (33::a') v)=33::(a'++[32,61,32]++qU 1 v):=by
  rw[hz];exact a4N rfl
 have hle:(qU 1 v).length<=4000000000:=by
  unfold rF at hl;simp only[aMu,aMv,aMF] at hl;omega
 have hs:pJ (((33::a')++[32,61,32])++qU 1 v):=by
  unfold pJ;unfold rF at hl;simp only[aMu,aMv,aMF] at hl⊢;omega
 have hS:=a4j hs;rw[aCQ hk] at hS;have hN:=aBB (s:=((33::a')++[32,61,32])++qU 1 v) (a:=33::a') (v0:=qU 1 v) hS hle;rw[TU hv,e] at hN;unfold uA;rw[KY (by unfold pJ;exact hl),hc,aMs,if_neg (by simp),KX,aMs,FX];rw[if_neg (TM (by decide)),ED,aMs,BY,if_neg (by simp),ED,aMs,BY,if_pos (by simp),hN,aMs];rfl
theorem aCS {a:List UInt8}(h:(a.all fun b=>decide (b≠61)&&decide (b≠92))=true): ∀t:List UInt8,rO 61 (a++t)=(rO 61 t).map (· +a.length):=fun t=>
 aCP a t fun b hb=>by
  have:=aNa.1 h b hb;simpa using this
theorem aJ2 {x:List UInt8}(h:s8 x=true):(([33,58]++x).all fun b=>decide (b≠61)&&decide (b≠92))=true:=by
 have hw:=aCq h;unfold TO at hw;rw[aMz] at hw;rw[List.all_append];have h2:(x.all fun b=>decide (b≠61)&&decide (b≠92))=true:=by
  rw[aNa];intro b hb;have:=aNa.1 hw.1 b hb;simp only[aMz,aMw];constructor
  ·rintro rfl;revert this;decide
  ·rintro rfl;revert this;decide
 rw[h2];rfl
theorem aJ3 (x:List UInt8):uM ([33,58]++x)=(7,x):=by
 unfold uM;rw[if_neg (by simp),if_neg (by simp),if_neg (by simp),if_neg (by simp),if_pos (by rfl)];rfl
theorem aCT {x:List UInt8}(hx:rN x=true) (hl:(sM x).length<=4000000000):uA (sM x)=some (2,[],x,false):=by
 have hz:sM x=(35::46::32::qU 1 x)++[10]:=by
  unfold sM;simp only[List.cons_append,List.nil_append]
 have hc:BZ (sM x)=35::46::32::qU 1 x:=by
  rw[hz];exact a4N rfl
 have hle:(qU 1 x).length<=4000000000:=by
  unfold sM at hl;simp only[aMu,aMv,aMF] at hl;omega
 have hb2:pV (35::46::32::qU 1 x) 2=((32:UInt8).toNat:Int):=rfl;have hc3:pF (35::46::32::qU 1 x) 3 ((35::46::32::qU 1 x).length:Int)=qU 1 x:=zL (k:=3);unfold uA;rw[KY (by unfold pJ;exact hl),hc,aMs,if_neg (show¬decide ((35::46::32::qU 1 x:List UInt8)=[])=true by simp),KX,aMs,FX,if_pos (by rfl),if_neg (show¬decide ((35::46::32::qU 1 x:List UInt8)=[35,46])=true by simp)];rw[if_pos (show 0<=(2:Int)/\(2:Int)<((35::46::32::qU 1 x).length:Int) by simp only[aMv];omega),hb2,if_neg (by decide),if_pos (show 0<=(3:Int)/\(3:Int)<=((35::46::32::qU 1 x).length:Int)/\((35::46::32::qU 1 x).length:Int)<=((35::46::32::qU 1 x).length:Int) by simp only[aMv];omega),hc3,I9 hle,aMs,TU hx];rfl
theorem aJ4:uA [10]=some (0,[],[],false):=by
 unfold uA;rw[KY (by unfold pJ;decide),show BZ [10]=[] from rfl];rfl
theorem aJ5:uA [37,37,10]=some (8,[],[],false):=by
 unfold uA;rw[KY (by unfold pJ;decide),show BZ [37,37,10]=[37,37] from rfl,aMs,if_neg (by decide),KX,aMs,FX,if_neg (by decide),ED,aMs,BY,if_neg (by decide),ED,aMs,BY,if_neg (by decide),if_pos (by decide)]
theorem aJ6:((List.range 256).all fun b=>match tM 1 b true with|[]=>false|c::_=> !(decide (c=32)||decide (c=9)||decide (c=35)||decide (c=33)))=true:=by kernel_rfl
theorem aJ7 (x:List UInt8) (h:x≠[]): ∃c u,qU 1 x=c::u/\c≠32/\c≠9/\c≠35/\c≠33:=by
 cases x with
 |nil=>exact absurd rfl h
 |cons b t=>
  have h1:=aNa.1 aJ6 b.toNat (aN4.2 (UInt8.toNat_lt _));rw[OG];unfold xQ;cases he:tM 1 b.toNat true with
  |nil=>rw[he] at h1;cases h1
  |cons c u=>
   rw[he] at h1;simp only[aMV,aNC,aM7] at h1;exact⟨c,u++xQ 1 false t,rfl,h1.1.1.1,h1.1.1.2,h1.1.2,h1.2⟩
theorem aJ8 {k v:List UInt8}(hk:k≠[]) (hkt:rN k=true) (hv:rN v=true) (hl:(rF (qU 1 k) v).length<=4000000000):uA (rF (qU 1 k) v)=some (9,k,v,false):=by
 obtain⟨c,u,hcu,c1,c2,c3,c4⟩:=aJ7 k hk;have hkk: ∀t:List UInt8,rO 61 (qU 1 k++t)=(rO 61 t).map (· +(qU 1 k).length):=fun t=>by
  rw[OG];exact a4x (n:=1) (.inl rfl) k true t
 have hs:pJ ((qU 1 k++[32,61,32])++qU 1 v):=by
  unfold pJ;unfold rF at hl;simp only[aMu,aMv,aMF] at hl⊢;omega
 have hle:(qU 1 k).length<=4000000000/\(qU 1 v).length<=4000000000:=by
  unfold pJ at hs;simp only[aMu,aMv,aMF] at hs;omega
 have hS:=a4j hs;rw[aCQ hkk] at hS;have hne:qU 1 k≠[]:=by rw[hcu];simp
 have hc:BZ (rF (qU 1 k) v)=(qU 1 k++[32,61,32])++qU 1 v:=by
  unfold rF;rw[hcu];refine a4N (b:=c) (u:=u++[32,61,32]++qU 1 v) ?_;unfold EE;simp [c1,c2]
 unfold uA;rw[KY (by unfold pJ;exact hl),hc,aMs,if_neg (show¬decide (((qU 1 k++[32,61,32])++qU 1 v:List UInt8)=[])=true by simp),KX,aMs,FX];have hb: ∀x y:UInt8,c≠x->¬sZ x y ((qU 1 k++[32,61,32])++qU 1 v)=true:=fun x y h=>by
  rw[hcu];exact TM h
 have hh: ∀x:UInt8,c≠x->¬decide (((qU 1 k++[32,61,32])++qU 1 v).head? =some x)=true:=fun x h=>by
  rw[hcu];simp [h]
 rw[if_neg (hb 35 46 c3),ED,aMs,BY,if_neg (hh 35 c3),ED,aMs,BY,if_neg (hh 33 c4)];rw[if_neg (by
  intro h;have:=aM0 List.length (aNi h);simp only[aMu,aMv,aMF] at this;omega),hS,aMs]
 show (if ((!true)||decide (qU 1 k=[]))=true then _ else _)=_
 rw[if_neg (by simp [hne])];show (BT (qU 1 k)).bind _=_;rw[I9 hle.1,aMs];show (BT (qU 1 v)).bind _=_;rw[I9 hle.2,aMs,TU hkt,TU hv];rfl
theorem IK {l:List UInt8}{ls:List (List UInt8)}{b b':RS}(h:wT l b=some (.inl b')):tC (l::ls) b=tC ls b':=by
 rw[tC,h,aMs]
section
variable {id src tg v k:List UInt8}{cm fl:List (List UInt8)}{st op:Int}{fd:List qO}{hs ht:Bool}
theorem aCU (h:cm.length<20):sX ((id,(src,(tg,(cm,(fl,(st,(fd,()))))))),(hs,(ht,(op,())))) (2,(k,(v,(false,()))))=some (src,cm++[v],fl,st,fd,hs,ht,0):=by
 unfold sX;dsimp only;rw[if_pos (by simp),if_neg (by simp),if_neg (by simp;omega),if_pos (by simp;omega),if_pos (by simp;omega),List.nil_append]
theorem aJ9:sX ((id,(src,(tg,(cm,(fl,(st,(fd,()))))))),(false,(ht,(op,())))) (4,(k,(v,(false,()))))=some (v,cm,fl,st,fd,true,ht,0):=by
 unfold sX;dsimp only;rw[if_neg (by simp),if_pos (by simp),if_neg (by simp),if_neg (by simp)]
theorem aKa {n:Int}(h0:0<=n) (h4:n<=4):sX ((id,(src,(tg,(cm,(fl,(st,(fd,()))))))),(hs,(false,(op,())))) (5,(k,(pU .str vC n,(false,()))))=some (src,cm,fl,n,fd,hs,true,0):=by
 unfold sX;dsimp only;rw[if_neg (by simp),if_neg (by simp),if_pos (by simp),SX,if_pos wE,aJr h0 h4];rw[if_neg (by
  show¬(false||decide (n<0))=true
  simp;omega),if_neg (by simp),aMs]
theorem aKb (h:fl.length<20) (hn:s8 v=true) (hlt: ∀y∈fl,y<v):sX ((id,(src,(tg,(cm,(fl,(st,(fd,()))))))),(hs,(ht,(op,())))) (6,(k,(v,(false,()))))=some (src,cm,fl++[v],st,fd,hs,ht,0):=by
 have hf:pJ v:=by have:=vG (IH hn);unfold pJ;omega
 have hfl:pJ fl:=by unfold pJ;omega
 have hnone:(fl.any fun y=>decide (y=v))=false:=by
  rw[aNg];intro y hy;have:=hlt y hy;simp only[aMw];intro he;rw[he] at this;exact List.lt_irrefl _ this
 unfold sX;dsimp only;rw[if_neg (by simp),if_neg (by simp),if_neg (by simp),if_pos (by simp),FV _ hf,if_pos wE,hn];rw[if_neg (show¬(false|| !val (some true))=true from by decide),a4n _ _ hfl,aMs,hnone,if_neg (by simp),if_neg (by simp;omega),a4o hfl,aMs,aJp hlt]
theorem aCV (h:fd.length<20) (hn:s8 k=true) (hlt: ∀y∈fd,y.1<k):sX ((id,(src,(tg,(cm,(fl,(st,(fd,()))))))),(hs,(ht,(op,())))) (7,(k,(v,(false,()))))=some (src,cm,fl,st,fd++[(k,(v,()))],hs,ht,0):=by
 have hf:pJ k:=by have:=vG (IH hn);unfold pJ;omega
 have hfd:pJ fd:=by unfold pJ;omega
 have hnone:(fd.any fun y=>decide (y.1=k))=false:=by
  rw[aNg];intro y hy;have:=hlt y hy;simp only[aMw];intro he;rw[he] at this;exact List.lt_irrefl _ this
 unfold sX;dsimp only;rw[if_neg (by simp),if_neg (by simp),if_neg (by simp),if_neg (by simp),if_pos (by simp),FV _ hf,if_pos wE,hn];rw[if_neg (show¬(false|| !val (some true))=true from by decide),a3N _ _ hfd,aMs,a3M,hnone,if_neg (by simp),if_neg (by simp;omega),a3O _ _ _ hfd,aMs,aJq hlt]
end
abbrev hB (at_ i:Int) (tag:List UInt8) (cm:List (List UInt8)) (fd:List qO):RS:=([],at_,i,tag,[],[],[],[],[],[],cm,[],0,fd,false,false,-1)
section
variable {line:List UInt8}{at_ i:Int}{tag k v:List UInt8}{cm cm':List (List UInt8)}{fd fd':List qO}
theorem aCW {f:Int}(hq:uA line=some (f,k,v,false)) (hf:f=2\/f=7)
  (hA:sX (([],([],([],(cm,([],(0,(fd,()))))))),(false,(false,(-1,())))) (f,(k,(v,(false,()))))=some ([],cm',[],0,fd',false,false,0)):
  wT line (hB at_ i tag cm fd)=some (.inl (hB (at_+(line.length:Int)) (i+1) tag cm' fd')):=by
 have hr:tU (hB at_ i tag cm fd) (f,k,v,false)=some (0,false,tag,[],[],[],[],[],[],cm',[],0,fd',false,false,-1):=by
  unfold tU;dsimp only;rw[if_pos (by simp)];unfold wZ qM;dsimp only;rcases hf with rfl|rfl
  ·rw[if_neg (by simp),aMs,if_neg (by simp),if_pos (by simp),aMs,if_pos (by simp),hA,aMs,aMs]
  ·rw[if_neg (by simp),aMs,if_neg (by simp),if_neg (by simp),aMs,if_pos (by simp),hA,aMs,aMs]
 unfold wT;rw[hq,aMs,hr,aMs];dsimp only;rw[if_neg (by simp),if_neg (by simp)]
theorem aKc (hq:uA line=some (3,k,v,false)) (ht:uB v=true):wT line (hB at_ i [] cm fd)=some (.inl (hB (at_+(line.length:Int)) (i+1) v cm fd)):=by
 have hf:pJ v:=by have:=vG (a4B ht);unfold pJ;omega
 have hr:tU (hB at_ i [] cm fd) (3,k,v,false)=some (0,false,v,[],[],[],[],[],[],cm,[],0,fd,false,false,-1):=by
  unfold tU;dsimp only;rw[if_pos (by simp)];unfold wZ qM;dsimp only;rw[if_neg (by simp),aMs,if_neg (by simp),if_neg (by simp),aMs,if_neg (by simp),if_pos (by simp),SU _ hf,if_pos wE,ht];rw[if_neg (show¬(false|| !val (some true))=true from by decide),if_neg (by simp),aMs]
 unfold wT;rw[hq,aMs,hr,aMs];dsimp only;rw[if_neg (by simp),if_neg (by simp)]
abbrev eB (ends:List Int) (at_ i:Int) (tag:List UInt8) (cms:List (List UInt8)) (fds:List qO) (es:List tH) (src:List UInt8) (cm fl:List (List UInt8)) (st:Int) (fd:List qO) (hs ht:Bool) (op:Int):RS:=
 (ends,at_,i,tag,cms,fds,es,[],src,[],cm,fl,st,fd,hs,ht,op)
theorem aKd (hq:uA line=some (8,k,v,false)) (ht:tag≠[]):wT line (hB at_ i tag cm fd)=some (.inl (eB [at_+(line.length:Int)] (at_+(line.length:Int)) (i+1) tag cm fd [] [] [] [] 0 [] false false (-1))):=by
 have hr:tU (hB at_ i tag cm fd) (8,k,v,false)=some (0,true,tag,cm,fd,[],[],[],[],[],[],0,[],false,false,-1):=by
  unfold tU;dsimp only;rw[if_pos (by simp)];unfold wZ qM;dsimp only;rw[if_neg (by simp),aMs,if_neg (by simp),if_neg (by simp),aMs,if_neg (by simp),if_neg (by simp),if_pos (by simp),if_neg (by simpa using ht),aMs]
 unfold wT;rw[hq,aMs,hr,aMs];dsimp only;rw[if_neg (by simp),if_pos rfl,if_pos (by simp)];rfl
end
section
variable {line:List UInt8}{ends:List Int}{at_ i:Int}{tag k v src src':List UInt8}{cms cm cm' fl fl':List (List UInt8)}{fds fd fd':List qO}{es:List tH}{st st' op:Int}{hs ht hs' ht':Bool}
theorem OL {f:Int}(hne:ends≠[]) (hq:uA line=some (f,k,v,false)) (hf:f=2\/f=4\/f=5\/f=6\/f=7)
  (hA:sX (([],(src,([],(cm,(fl,(st,(fd,()))))))),(hs,(ht,(op,())))) (f,(k,(v,(false,()))))=some (src',cm',fl',st',fd',hs',ht',0)):
  ∃op',wT line (eB ends at_ i tag cms fds es src cm fl st fd hs ht op)=some (.inl (eB ends (at_+(line.length:Int)) (i+1) tag cms fds es src' cm' fl' st' fd' hs' ht' op')):=by
 have h9: ¬decide (f=9)=true:=by rcases hf with rfl|rfl|rfl|rfl|rfl<;>decide
 have hm:(((decide ((2:Int)<=f))&&(decide (f<=(7:Int))))&&(!decide (f=(3:Int))))=true:=by rcases hf with rfl|rfl|rfl|rfl|rfl<;>decide
 have hr: ∃op',tU (eB ends at_ i tag cms fds es src cm fl st fd hs ht op) (f,k,v,false)=some (0,false,tag,cms,fds,es,[],src',[],cm',fl',st',fd',hs',ht',op'):=by
  unfold tU;dsimp only;rw[if_neg (by simp [hne]),if_neg h9,if_pos hm,hA,aMs];by_cases hop:decide (op<0)=true
  ·rw[if_pos hop];exact⟨_,rfl⟩
  ·rw[if_neg hop];exact⟨_,rfl⟩
 obtain⟨op',hr⟩:=hr;refine⟨op',?_⟩;unfold wT;rw[hq,aMs,hr,aMs];dsimp only;rw[if_neg (by simp),if_neg (by simp)]
theorem aKe (hne:ends≠[]) (hq:uA line=some (0,k,v,false)):wT line (eB ends at_ i tag cms fds es src cm fl st fd hs ht op)=some (.inl (eB ends (at_+(line.length:Int)) (i+1) tag cms fds es src cm fl st fd hs ht op)):=by
 have hr:tU (eB ends at_ i tag cms fds es src cm fl st fd hs ht op) (0,k,v,false)=some (0,false,tag,cms,fds,es,[],src,[],cm,fl,st,fd,hs,ht,op):=by
  unfold tU;dsimp only;rw[if_neg (by simp [hne]),if_neg (by simp),if_neg (by simp),if_neg (by simp)]
 unfold wT;rw[hq,aMs,hr,aMs];dsimp only;rw[if_neg (by simp),if_neg (by simp)]
theorem aKf (hne:ends≠[]) (hq:uA line=some (9,k,v,false)) (hk:I8 k=true) (hes:es.length<1000) (hen:ends.length<=5000) (hnew:(es.any fun y=>decide (y.1=k))=false):
  wT line (eB ends at_ i tag cms fds es src cm fl st fd hs ht op)=some (.inl (eB (ends++[at_+(line.length:Int)]) (at_+(line.length:Int)) (i+1) tag cms fds (es++[(k,(src,(v,(cm,(fl,(st,(fd,())))))))]) [] [] [] 0 [] false false (-1))):=by
 have hk': ¬((false||(decide (k=([]:List UInt8))))||(decide ((200:Int)<(k.length:Int))))=true:=by
  unfold I8 at hk;simp only[aMz,aMV,aM7,aMw] at hk;simp [hk.1];omega
 have hcl:DM (tag,(cms,(fds,(es,())))) (([],(src,([],(cm,(fl,(st,(fd,()))))))),(hs,(ht,(op,())))) (9,(k,(v,(false,()))))=some (es++[(k,(src,(v,(cm,(fl,(st,(fd,())))))))],0):=by
  unfold DM;dsimp only;rw[if_neg hk',a39 _ _ (show es.length<=5000 by omega),aMs,a38];rw[if_neg (fun hh=>aM9 (hnew.symm.trans hh)),if_neg (show¬decide ((1000:Int)<=(es.length:Int))=true from by simp;omega),if_pos (by simp;omega),if_pos (by simp;omega),List.nil_append]
 have hr:tU (eB ends at_ i tag cms fds es src cm fl st fd hs ht op) (9,k,v,false)=some (0,true,tag,cms,fds,es++[(k,(src,(v,(cm,(fl,(st,(fd,())))))))],[],[],[],[],[],0,[],false,false,-1):=by
  unfold tU;dsimp only;rw[if_neg (by simp [hne]),if_pos (by simp),hcl,aMs]
 unfold wT;rw[hq,aMs,hr,aMs];dsimp only;rw[if_neg (by simp),if_pos rfl,if_pos (by omega)]
end
theorem L7 {α:Type}(f:α->List UInt8) (st:Int->Int->Int->List α->RS) (rest:List (List UInt8)) (ok:List α->α->Prop)
  (hstep: ∀at_ i op acc x,ok acc x->∃op',wT (f x) (st at_ i op acc)=some (.inl (st (at_+((f x).length:Int)) (i+1) op' (acc++[x])))):
  ∀(l acc:List α) (at_ i op:Int),(∀p x q,l=p++x::q->ok (acc++p) x)->∃i' op',tC (l.map f++rest) (st at_ i op acc)=tC rest (st (at_+(((l.map f).flatten.length:Nat):Int)) i' op' (acc++l))
 |[],acc,at_,i,op,_=>⟨i,op,by simp⟩
 |x::l,acc,at_,i,op,h=>by
  have h0:=h [] x l rfl;rw[List.append_nil] at h0;obtain⟨op1,h1⟩:=hstep at_ i op acc x h0;obtain⟨i2,op2,h2⟩:=L7 f st rest ok hstep l (acc++[x]) (at_+((f x).length:Int)) (i+1) op1 (fun p y q e=>by
   rw[aMC];exact h (x::p) y q (by rw[e];rfl))
  refine⟨i2,op2,?_⟩;rw[aNt,List.cons_append,IK h1,h2,aMC,aNF];congr 2;rw[aNj,aMu];omega
theorem a4O {a v:List UInt8}(ha:a.length<=1000000) (hv:rN v=true):(rF a v).length<=4000000000:=by
 have h1:=EL (n:=1) (.inl rfl) v;have h2:=vG hv;unfold rF;simp only[aMu,aMv,aMF];omega
theorem aCX {v:List UInt8}(hv:rN v=true):(sM v).length<=4000000000:=by
 have h1:=EL (n:=1) (.inl rfl) v;have h2:=vG hv;unfold sM;simp only[aMu,aMv,aMF];omega
theorem aCY {l:List (List UInt8)}(h:vR l=true): ∀p x q,l=p++x::q->p.length<20/\rN x=true:=by
 obtain⟨h1,h2⟩:=OH h;rintro p x q rfl;refine⟨?_,h2 x (by simp)⟩;simp only[aMu,aMv] at h1;omega
theorem aKg {l:List (List UInt8)}(h:AD l=true): ∀p x q,l=p++x::q->p.length<20/\s8 x=true/\∀y∈p,y<x:=by
 obtain⟨h1,h2,h3⟩:=TP h;rintro p x q rfl;refine⟨?_,h2 x (by simp),fun y hy=>(aNR.1 h3).2.2 y hy x aMO⟩;simp only[aMu,aMv] at h1;omega
theorem aCZ {l:List qO}(h:uY l=true): ∀p x q,l=p++x::q->p.length<20/\(s8 x.1=true/\rN x.2.1=true)/\∀y∈p,y.1<x.1:=by
 obtain⟨h1,h2,h3⟩:=G4 h;rintro p x q rfl;refine⟨?_,⟨(h2 x (by simp)).1,(h2 x (by simp)).2.2⟩,fun y hy=>(aNR.1 h3).2.2 y hy x aMO⟩;simp only[aMu,aMv] at h1;omega
theorem aC0 {x:qO}(hn:s8 x.1=true) (hv:rN x.2.1=true):uA (tP x)=some (7,x.1,x.2.1,false):=by
 have h:=aCR (a':=58::x.1) (v:=x.2.1) (aCS (aJ2 hn)) hv (a4O (by have:=vG (IH hn);simp only[aMv];omega) hv);have hb:uM (33::58::x.1)=(7,x.1):=aJ3 x.1;rw[hb] at h;exact h
theorem TV {a' v:List UInt8}{n:Int}(hp:((33::a':List UInt8).all fun b=>decide (b≠61)&&decide (b≠92))=true) (hb:uM (33::a')=(n,[])) (hl:a'.length<=1000) (hv:rN v=true):uA (rF (33::a') v)=some (n,[],v,false):=by
 have h:=aCR (aCS hp) hv (a4O (by simp only[aMv];omega) hv);rw[hb] at h;exact h
section
variable {tag:List UInt8}{rest:List (List UInt8)}
theorem aKh {l:List (List UInt8)}(h:vR l=true) (at_ i:Int): ∃i',tC (l.map sM++rest) (hB at_ i tag [] [])=tC rest (hB (at_+(((l.map sM).flatten.length:Nat):Int)) i' tag l []):=by
 obtain⟨i',_,e⟩:=L7 sM (fun a i _ acc=>hB a i tag acc []) rest (fun acc x=>acc.length<20/\rN x=true) (fun a i op acc x hx=>⟨0,aCW (aCT hx.2 (aCX hx.2)) (.inl rfl) (aCU hx.1)⟩) l [] at_ i 0 (by simpa using aCY h);exact⟨i',by simpa using e⟩
theorem aKi {l:List qO}{cm:List (List UInt8)}(h:uY l=true) (at_ i:Int): ∃i',tC (l.map tP++rest) (hB at_ i tag cm [])=tC rest (hB (at_+(((l.map tP).flatten.length:Nat):Int)) i' tag cm l):=by
 obtain⟨i',_,e⟩:=L7 tP (fun a i _ acc=>hB a i tag cm acc) rest (fun acc x=>acc.length<20/\(s8 x.1=true/\rN x.2.1=true)/\∀y∈acc,y.1<x.1) (fun a i op acc x hx=>⟨0,aCW (aC0 hx.2.1.1 hx.2.1.2) (.inr rfl) (aCV hx.1 hx.2.1.1 hx.2.2)⟩) l [] at_ i 0 (by simpa using aCZ h);exact⟨i',by simpa using e⟩
end
def ET (c:C4):List (List UInt8):=c.2.1.map sM++(rF B0 c.1::(c.2.2.1.map tP++[[37,37,10]]))
theorem aC1 (c:C4):(ET c).flatten=uG c:=by
 unfold ET uG CU EO;simp only[List.flatten_append,aNj,List.flatten_nil,List.append_nil,List.flatMap_def,aMC]
theorem aKj {c:C4}{rest:List (List UInt8)}(ht:uB c.1=true) (hc:vR c.2.1=true) (hf:uY c.2.2.1=true):
  ∃i',tC (ET c++rest) IE=tC rest (eB [((uG c).length:Int)] ((uG c).length:Int) i' c.1 c.2.1 c.2.2.1 [] [] [] [] 0 [] false false (-1)):=by
 have hl:(uG c).length=(c.2.1.map sM).flatten.length+((rF B0 c.1).length+((c.2.2.1.map tP).flatten.length+3)):=by
  rw[<-aC1];unfold ET;simp only[List.flatten_append,aNj,List.flatten_nil,aMu,aMv,aMF]
 have e:ET c++rest=c.2.1.map sM++(rF B0 c.1::(c.2.2.1.map tP++([37,37,10]::rest))):=by
  unfold ET;simp only[aMC,List.cons_append,List.nil_append]
 obtain⟨i1,e1⟩:=aKh (tag:=[]) (rest:=rF B0 c.1::(c.2.2.1.map tP++([37,37,10]::rest))) hc 0 0;have s1:=aKc (at_:=0+(((c.2.1.map sM).flatten.length:Nat):Int)) (i:=i1) (cm:=c.2.1) (fd:=[]) (TV (a':=[116,97,103]) (by decide) (by decide) (by decide) (a4B ht)) ht;obtain⟨i2,e2⟩:=aKi (tag:=c.1) (cm:=c.2.1) (rest:=[37,37,10]::rest) hf (0+(((c.2.1.map sM).flatten.length:Nat):Int)+(((rF B0 c.1).length:Nat):Int)) (i1+1);have s2:=aKd (at_:=0+(((c.2.1.map sM).flatten.length:Nat):Int)+(((rF B0 c.1).length:Nat):Int)+(((c.2.2.1.map tP).flatten.length:Nat):Int)) (i:=i2) (cm:=c.2.1) (fd:=c.2.2.1) aJ5 (aBQ ht);refine⟨i2+1,?_⟩;rw[e,show IE=hB 0 0 [] [] [] from rfl,e1,IK s1,e2,IK s2];have e3:(0:Int)+(((c.2.1.map sM).flatten.length:Nat):Int)+(((rF B0 c.1).length:Nat):Int)+(((c.2.2.1.map tP).flatten.length:Nat):Int)+((([37,37,10]:List UInt8).length:Nat):Int)=((uG c).length:Int):=by
  rw[hl];simp only[aMv,aMF];omega
 rw[e3]
section
variable {tag src:List UInt8}{rest:List (List UInt8)}{ends:List Int}{cms cm fl:List (List UInt8)}{fds fd:List qO}{es:List tH}{st op:Int}{hs ht:Bool}(hne:ends≠[])
include hne
theorem aKk {l:List (List UInt8)}(h:vR l=true) (at_ i op:Int): ∃i' op',tC (l.map sM++rest) (eB ends at_ i tag cms fds es src [] fl st fd hs ht op)=tC rest (eB ends (at_+(((l.map sM).flatten.length:Nat):Int)) i' tag cms fds es src l fl st fd hs ht op'):=by
 obtain⟨i',op',e⟩:=L7 sM (fun a i o acc=>eB ends a i tag cms fds es src acc fl st fd hs ht o) rest (fun acc x=>acc.length<20/\rN x=true) (fun a i o acc x hx=>OL hne (aCT hx.2 (aCX hx.2)) (.inl rfl) (aCU hx.1)) l [] at_ i op (by simpa using aCY h);exact⟨i',op',by simpa using e⟩
theorem aKl {l:List (List UInt8)}(h:AD l=true) (at_ i op:Int): ∃i' op',tC (l.map (rF xB)++rest) (eB ends at_ i tag cms fds es src cm [] st fd hs ht op)=tC rest (eB ends (at_+(((l.map (rF xB)).flatten.length:Nat):Int)) i' tag cms fds es src cm l st fd hs ht op'):=by
 obtain⟨i',op',e⟩:=L7 (rF xB) (fun a i o acc=>eB ends a i tag cms fds es src cm acc st fd hs ht o) rest (fun acc x=>acc.length<20/\s8 x=true/\∀y∈acc,y<x) (fun a i o acc x hx=>OL hne (TV (a':=[102,108,97,103]) (by decide) (by decide) (by decide) (IH hx.2.1)) (.inr (.inr (.inr (.inl rfl)))) (aKb hx.1 hx.2.1 hx.2.2)) l [] at_ i op (by simpa using aKg h);exact⟨i',op',by simpa using e⟩
theorem aKm {l:List qO}(h:uY l=true) (at_ i op:Int): ∃i' op',tC (l.map tP++rest) (eB ends at_ i tag cms fds es src cm fl st [] hs ht op)=tC rest (eB ends (at_+(((l.map tP).flatten.length:Nat):Int)) i' tag cms fds es src cm fl st l hs ht op'):=by
 obtain⟨i',op',e⟩:=L7 tP (fun a i o acc=>eB ends a i tag cms fds es src cm fl st acc hs ht o) rest (fun acc x=>acc.length<20/\(s8 x.1=true/\rN x.2.1=true)/\∀y∈acc,y.1<x.1) (fun a i o acc x hx=>OL hne (aC0 hx.2.1.1 hx.2.1.2) (.inr (.inr (.inr (.inr rfl)))) (aCV hx.1 hx.2.1.1 hx.2.2)) l [] at_ i op (by simpa using aCZ h);exact⟨i',op',by simpa using e⟩
def zP (x:List UInt8):List (List UInt8):=if x=[] then[] else[rF OJ x]
def zQ (n:Int):List (List UInt8):=if n=0 then[] else[rF OK (pU .str vC n)]
theorem aKn {x:List UInt8}(h:rN x=true) (at_ i op:Int): ∃i' op' hs',tC (zP x++rest) (eB ends at_ i tag cms fds es [] cm fl st fd false ht op)=tC rest (eB ends (at_+(((zP x).flatten.length:Nat):Int)) i' tag cms fds es x cm fl st fd hs' ht op'):=by
 unfold zP;by_cases hx:x=[]
 ·subst hx;exact⟨i,op,false,by simp⟩
 ·rw[if_neg hx];obtain⟨op',hst⟩:=OL (at_:=at_) (i:=i) (tag:=tag) (cms:=cms) (fds:=fds) (es:=es) hne (TV (a':=[115,111,117,114,99,101]) (by decide) (by decide) (by decide) h) (.inr (.inl rfl)) (aJ9 (src:=[]) (cm:=cm) (fl:=fl) (st:=st) (fd:=fd) (ht:=ht) (op:=op) (v:=x));exact⟨i+1,op',true,by rw[aNF,IK hst];simp⟩
theorem aKo {n:Int}(h0:0<=n) (h4:n<=4):rN (pU .str vC n)=true:=by
 have:n=0\/n=1\/n=2\/n=3\/n=4:=by omega
 rcases this with rfl|rfl|rfl|rfl|rfl<;>exact IH (by decide)
theorem aKp {n:Int}(h0:0<=n) (h4:n<=4) (at_ i op:Int): ∃i' op' ht',tC (zQ n++rest) (eB ends at_ i tag cms fds es src cm fl 0 fd hs false op)=tC rest (eB ends (at_+(((zQ n).flatten.length:Nat):Int)) i' tag cms fds es src cm fl n fd hs ht' op'):=by
 unfold zQ;by_cases hx:n=0
 ·subst hx;exact⟨i,op,false,by simp⟩
 ·rw[if_neg hx];obtain⟨op',hst⟩:=OL (at_:=at_) (i:=i) (tag:=tag) (cms:=cms) (fds:=fds) (es:=es) hne (TV (a':=[115,116,97,116,101]) (by decide) (by decide) (by decide) (aKo hne h0 h4)) (.inr (.inr (.inl rfl))) (aKa (src:=src) (cm:=cm) (fl:=fl) (st:=0) (fd:=fd) (hs:=hs) (op:=op) h0 h4);exact⟨i+1,op',true,by rw[aNF,IK hst];simp⟩
end
def B1 (x:tH):List (List UInt8):=[10]::(x.2.2.2.1.map sM++(zP x.2.1++(zQ x.2.2.2.2.2.1++(x.2.2.2.2.1.map (rF xB)++(x.2.2.2.2.2.2.1.map tP++[rF (qU 1 x.1) x.2.2.1])))))
theorem aC2 (x:tH):(B1 x).flatten=tI x:=by
 unfold B1 tI IJ ES EQ CU II EO zP zQ;simp only[aNj,List.flatten_append,List.flatten_nil,List.append_nil,List.flatMap_def,aMC];congr 3
 ·split<;>simp
 ·congr 1;split<;>simp
theorem aKq {x:tH}{tag:List UInt8}{rest:List (List UInt8)}{ends:List Int}{cms:List (List UInt8)}{fds:List qO}{es:List tH}(hne:ends≠[]) (h:xA x=true) (hes:es.length<1000) (hen:ends.length<=5000) (hnew:(es.any fun y=>decide (y.1=x.1))=false) (a:Nat) (i:Int):
  ∃i',tC (B1 x++rest) (eB ends (a:Int) i tag cms fds es [] [] [] 0 [] false false (-1))=tC rest (eB (ends++[((a+(tI x).length:Nat):Int)]) ((a+(tI x).length:Nat):Int) i' tag cms fds (es++[x]) [] [] [] 0 [] false false (-1)):=by
 have h':=h;unfold xA at h';simp only[aMz] at h';obtain⟨⟨⟨⟨⟨⟨⟨⟨hid,h200⟩,hidt⟩,hsrc⟩,htgt⟩,hcom⟩,hflg⟩,_⟩,hfld⟩:=h';obtain⟨r0,r4⟩:=TL h;have hidk:I8 x.1=true:=by unfold I8;rw[hid,h200];rfl
 have hidn:x.1≠[]:=by simpa using hid
 have hl:(tI x).length=1+((x.2.2.2.1.map sM).flatten.length+((zP x.2.1).flatten.length+((zQ x.2.2.2.2.2.1).flatten.length+((x.2.2.2.2.1.map (rF xB)).flatten.length+((x.2.2.2.2.2.2.1.map tP).flatten.length+(rF (qU 1 x.1) x.2.2.1).length))))):=by
  rw[<-aC2];unfold B1;simp only[List.flatten_append,aNj,List.flatten_nil,aMu,aMv,aMF];omega
 have e:B1 x++rest=[10]::(x.2.2.2.1.map sM++(zP x.2.1++(zQ x.2.2.2.2.2.1++(x.2.2.2.2.1.map (rF xB)++(x.2.2.2.2.2.2.1.map tP++(rF (qU 1 x.1) x.2.2.1::rest)))))):=by
  unfold B1;simp only[aMC,List.cons_append,List.nil_append]
 have s0:=aKe (at_:=(a:Int)) (i:=i) (tag:=tag) (cms:=cms) (fds:=fds) (es:=es) (src:=[]) (cm:=[]) (fl:=[]) (st:=0) (fd:=[]) (hs:=false) (ht:=false) (op:= -1) hne aJ4;obtain⟨i1,o1,e1⟩:=aKk (tag:=tag) (cms:=cms) (fds:=fds) (es:=es) (src:=[]) (fl:=[]) (st:=0) (fd:=[]) (hs:=false) (ht:=false) (rest:=zP x.2.1++(zQ x.2.2.2.2.2.1++(x.2.2.2.2.1.map (rF xB)++(x.2.2.2.2.2.2.1.map tP++(rF (qU 1 x.1) x.2.2.1::rest))))) hne hcom ((a:Int)+((([10]:List UInt8).length:Nat):Int)) (i+1) (-1);obtain⟨i2,o2,h2,e2⟩:=aKn (tag:=tag) (cms:=cms) (fds:=fds) (es:=es) (cm:=x.2.2.2.1) (fl:=[]) (st:=0) (fd:=[]) (ht:=false) (rest:=zQ x.2.2.2.2.2.1++(x.2.2.2.2.1.map (rF xB)++(x.2.2.2.2.2.2.1.map tP++(rF (qU 1 x.1) x.2.2.1::rest)))) hne hsrc ((a:Int)+((([10]:List UInt8).length:Nat):Int)+(((x.2.2.2.1.map sM).flatten.length:Nat):Int)) i1 o1;obtain⟨i3,o3,h3,e3⟩:=aKp (tag:=tag) (cms:=cms) (fds:=fds) (es:=es) (src:=x.2.1) (cm:=x.2.2.2.1) (fl:=[]) (fd:=[]) (hs:=h2) (rest:=x.2.2.2.2.1.map (rF xB)++(x.2.2.2.2.2.2.1.map tP++(rF (qU 1 x.1) x.2.2.1::rest))) hne r0 r4 ((a:Int)+((([10]:List UInt8).length:Nat):Int)+(((x.2.2.2.1.map sM).flatten.length:Nat):Int)+(((zP x.2.1).flatten.length:Nat):Int)) i2 o2;obtain⟨i4,o4,e4⟩:=aKl (tag:=tag) (cms:=cms) (fds:=fds) (es:=es) (src:=x.2.1) (cm:=x.2.2.2.1) (st:=x.2.2.2.2.2.1) (fd:=[]) (hs:=h2) (ht:=h3) (rest:=x.2.2.2.2.2.2.1.map tP++(rF (qU 1 x.1) x.2.2.1::rest)) hne hflg ((a:Int)+((([10]:List UInt8).length:Nat):Int)+(((x.2.2.2.1.map sM).flatten.length:Nat):Int)+(((zP x.2.1).flatten.length:Nat):Int)+(((zQ x.2.2.2.2.2.1).flatten.length:Nat):Int)) i3 o3;obtain⟨i5,o5,e5⟩:=aKm (tag:=tag) (cms:=cms) (fds:=fds) (es:=es) (src:=x.2.1) (cm:=x.2.2.2.1) (fl:=x.2.2.2.2.1) (st:=x.2.2.2.2.2.1) (hs:=h2) (ht:=h3) (rest:=rF (qU 1 x.1) x.2.2.1::rest) hne hfld ((a:Int)+((([10]:List UInt8).length:Nat):Int)+(((x.2.2.2.1.map sM).flatten.length:Nat):Int)+(((zP x.2.1).flatten.length:Nat):Int)+(((zQ x.2.2.2.2.2.1).flatten.length:Nat):Int)+(((x.2.2.2.2.1.map (rF xB)).flatten.length:Nat):Int)) i4 o4;have hll:(rF (qU 1 x.1) x.2.2.1).length<=4000000000:=a4O (by have h1:=EL (n:=1) (.inl rfl) x.1;have h2:=vG hidt;omega) htgt;have s6:=aKf (at_:=(a:Int)+((([10]:List UInt8).length:Nat):Int)+(((x.2.2.2.1.map sM).flatten.length:Nat):Int)+(((zP x.2.1).flatten.length:Nat):Int)+(((zQ x.2.2.2.2.2.1).flatten.length:Nat):Int)+(((x.2.2.2.2.1.map (rF xB)).flatten.length:Nat):Int)+(((x.2.2.2.2.2.2.1.map tP).flatten.length:Nat):Int)) (i:=i5) (tag:=tag) (cms:=cms) (fds:=fds) (src:=x.2.1) (cm:=x.2.2.2.1) (fl:=x.2.2.2.2.1) (st:=x.2.2.2.2.2.1) (fd:=x.2.2.2.2.2.2.1) (hs:=h2) (ht:=h3) (op:=o5) hne (aJ8 hidn hidt htgt hll) hidk hes hen hnew;refine⟨i5+1,?_⟩;rw[e,IK s0,e1,e2,e3,e4,e5,IK s6];have e7:(a:Int)+((([10]:List UInt8).length:Nat):Int)+(((x.2.2.2.1.map sM).flatten.length:Nat):Int)+(((zP x.2.1).flatten.length:Nat):Int)+(((zQ x.2.2.2.2.2.1).flatten.length:Nat):Int)+(((x.2.2.2.2.1.map (rF xB)).flatten.length:Nat):Int)+(((x.2.2.2.2.2.2.1.map tP).flatten.length:Nat):Int)+(((rF (qU 1 x.1) x.2.2.1).length:Nat):Int)=((a+(tI x).length:Nat):Int):=by
  rw[hl];simp only[aMv,aMF];omega
 rw[e7]
theorem aC3 {tag:List UInt8}{cms:List (List UInt8)}{fds:List qO}: ∀(l es:List tH) (ends:List Int) (a:Nat) (i:Int),ends≠[]->(∀x∈l,xA x=true)->(es++l).Pairwise (fun a b=>a.1≠b.1)->es.length+l.length<=1000->ends.length<=es.length+1->
  ∃i' at',tC ((l.map B1).flatten) (eB ends (a:Int) i tag cms fds es [] [] [] 0 [] false false (-1))=tC [] (eB (ends++(wU a (l.map tI)).map fun n:Nat=>(n:Int)) at' i' tag cms fds (es++l) [] [] [] 0 [] false false (-1))
 |[],es,ends,a,i,_,_,_,_,_=>⟨i,a,by simp [wU]⟩
 |x::l,es,ends,a,i,hne,hok,hp,hl,hle=>by
  rw[aMv] at hl;have hnew:(es.any fun y=>decide (y.1=x.1))=false:=by
   rw[aNg];intro y hy;simpa using(aNR.1 hp).2.2 y hy x aMO
  obtain⟨i1,e1⟩:=aKq (tag:=tag) (cms:=cms) (fds:=fds) (rest:=(l.map B1).flatten) hne (hok x aMO) (by omega) (by omega) hnew a i;obtain⟨i2,a2,e2⟩:=aC3 l (es++[x]) (ends++[((a+(tI x).length:Nat):Int)]) (a+(tI x).length) i1 (by simp) (fun y hy=>hok y (aMH _ hy)) (by rw[aMC,aNF];exact hp) (by rw[aMu,aNh];omega) (by simp only[aMu,aNh];omega);refine⟨i2,a2,?_⟩;rw[aNt,aNj,e1,e2,aMC,aMC,aNF,aNt,wU,aNt];rfl
theorem aKr:((List.range 256).all fun b=>[true,false].all fun f=>(tM 1 b f).all fun c=>decide (c≠10))=true:=by kernel_rfl
theorem aC4: ∀(s:List UInt8) (f:Bool),(10:UInt8)∉xQ 1 f s
  |[],f=>by simp [xQ]
  | b::u,f=>by
    have h1:=aNa.1 aKr b.toNat (aN4.2 (UInt8.toNat_lt _));have h2:=aNa.1 h1 f (by cases f<;>simp)
    unfold xQ;rw[aM4,not_or];refine⟨fun hm=> ?_,aC4 u false⟩;have:=aNa.1 h2 10 hm;exact absurd this (by decide)
theorem a4P (s:List UInt8):(10:UInt8)∉qU 1 s:=by rw[OG];exact aC4 s true
theorem aC5 (x:List UInt8):EI (sM x):=by
  refine⟨[35,46,32]++qU 1 x,?_,rfl⟩;rw[aM4,not_or];exact⟨by decide,a4P x⟩
theorem L8 {a:List UInt8}(b:List UInt8) (ha:(10:UInt8)∉a):EI (rF a b):=by
  refine⟨(a++[32,61,32])++qU 1 b,?_,rfl⟩;rw[aM4,not_or,aM4,not_or];exact⟨⟨ha,by decide⟩,a4P b⟩
theorem aKs {x:List UInt8}(h:s8 x=true):(10:UInt8)∉x:=by
  have hw:=aCq h;unfold TO at hw;rw[aMz] at hw;intro hm;have:=aNa.1 hw.1 10 hm;revert this;decide
theorem aC6 {x:qO}(h:s8 x.1=true):EI (tP x):=by
  refine L8 x.2.1 ?_;rw[aM4,not_or];exact⟨by decide,aKs h⟩
theorem OM {α:Type}{f:α→List UInt8}{l:List α}(h: ∀x∈l,EI (f x)): ∀y∈l.map f,EI y:=by
  intro y hy;obtain⟨x,hx,rfl⟩:=List.mem_map.1 hy;exact h x hx
theorem aC7 {u:List UInt8}(h:(10:UInt8)∉u):EI (u++[10]):=⟨u,h,rfl⟩
theorem aKt {c:C4}(hf:uY c.2.2.1=true): ∀y∈ET c,EI y:=by
  intro y hy;unfold ET at hy;obtain⟨_,h2,_⟩:=G4 hf;rcases aM4.1 hy with hy|hy
  ·exact OM (fun x _=>aC5 x) y hy
  · rcases aMK.1 hy with rfl|hy
    ·exact L8 _ (by decide)
    · rcases aM4.1 hy with hy|hy
      ·exact OM (fun x hx=>aC6 (h2 x hx).1) y hy
      · rw[aME.1 hy]
        exact aC7 (u:=[37,37]) (by decide)
theorem aKu {x:tH}(h:xA x=true): ∀y∈B1 x,EI y:=by
  have h':=h;unfold xA at h';simp only[aMz] at h';obtain⟨_,h2,_⟩:=G4 h'.2;intro y hy;unfold B1 at hy;rcases aMK.1 hy with rfl|hy
  ·exact aC7 (u:=[]) (by decide)
  · rcases aM4.1 hy with hy|hy
    ·exact OM (fun x _=>aC5 x) y hy
    · rcases aM4.1 hy with hy|hy
      · unfold zP at hy
        split at hy
        ·cases hy
        ·rw[aME.1 hy];exact L8 _ (by decide)
      · rcases aM4.1 hy with hy|hy
        · unfold zQ at hy
          split at hy
          ·cases hy
          ·rw[aME.1 hy];exact L8 _ (by decide)
        · rcases aM4.1 hy with hy|hy
          ·exact OM (fun x _=>L8 x (by decide)) y hy
          · rcases aM4.1 hy with hy|hy
            ·exact OM (fun x hx=>aC6 (h2 x hx).1) y hy
            ·rw[aME.1 hy];exact L8 _ (a4P _)
theorem a4Q {s:List UInt8}(h:s.length≤4000):(qU 1 s).length≤24000:=by
  have:=EL (n:=1) (.inl rfl) s;omega
theorem aC8 {l:List (List UInt8)}(h:l.length≤20∧∀y∈l,y.length≤4000):(CU l).length≤480080:=by
  have:=G2 (l:=l) (h:=sM) (B:=24004) fun x hx=>by
    have:=a4Q (h.2 x hx);unfold sM;simp only[aMu,aMv,aMF];omega
  unfold CU;omega
theorem L9 {a b:List UInt8}(hb:b.length≤4000):(rF a b).length≤a.length+24004:=by
  have:=a4Q hb;unfold rF;simp only[aMu,aMv,aMF];omega
theorem aC9 {l:List qO}(h:l.length≤20∧∀y∈l,y.1.length≤4000∧y.2.1.length≤4000):(EO l).length≤560120:=by
  have:=G2 (l:=l) (h:=tP) (B:=28006) fun x hx=>by
    have h1:=L9 (a:=[33,58]++x.1) (h.2 x hx).2;have h2:=(h.2 x hx).1;unfold tP;simp only[aMu,aMv,aMF] at h1;omega
  unfold EO;omega
theorem aKv {l:List (List UInt8)}(h:l.length≤20∧∀y∈l,y.length≤4000):(II l).length≤480200:=by
  have:=G2 (l:=l) (h:=rF xB) (B:=24010) fun x hx=>by
    have h1:=L9 (a:=xB) (h.2 x hx);simp only[aMv,aMF] at h1;omega
  unfold II;omega
theorem aKw {x:tH}(h:xA x=true):(tI x).length≤1700000:=by
  have hs:=aCw h;obtain⟨r0,r4⟩:=TL h;have a1:=a4Q hs.id;have a2:=aC8 hs.com;have a3:=L9 (a:=OJ) hs.src;have a5:=L9 (a:=OK) (b:=pU .str vC x.2.2.2.2.2.1) (by have:=a4z r0 r4;omega);have a6:=aKv hs.flg;have a7:=aC9 hs.fld;have a8:=L9 (a:=qU 1 x.1) hs.tgt;simp only[aMv,aMF] at a3 a5
  have b3:(if x.2.1=[] then[] else rF OJ x.2.1).length≤24100:=by
    split
    ·simp
    ·omega
  have b5:(if x.2.2.2.2.2.1=0 then[] else rF OK (pU .str vC x.2.2.2.2.2.1)).length≤24100:=by
    split
    ·simp
    ·omega
  unfold tI IJ ES EQ;simp only[aMu,aMv,aMF];omega
theorem aKx {c:C4}(h:vS c=true):(uG c).length≤1500000:=by
  obtain⟨h1,h2,h3,_⟩:=L4 h;obtain⟨c1,c2⟩:=OH h2;obtain⟨g1,g2,g3⟩:=G4 h3;have a1:=L9 (a:=B0) (vG (a4B h1));have a2:=aC8 ⟨c1,fun y hy=>vG (c2 y hy)⟩;have a3:=aC9 ⟨g1,fun y hy=>⟨vG (g2 y hy).2.1,vG (g2 y hy).2.2⟩⟩;simp only[aMv,aMF] at a1;unfold uG;simp only[aMu,aMv,aMF];omega
theorem aDa {c:C4}(h:vS c=true):(yR c).length≤4000000000:=by
  obtain⟨_,_,_,h4,h5,_⟩:=L4 h;have a1:=aKx h;have a2:=G2 (l:=c.2.2.2.1) (h:=tI) (B:=1700000) fun x hx=>aKw (h5 x hx);have e:(c.2.2.2.1.map tI).flatten=c.2.2.2.1.flatMap tI:=by rw[List.flatMap_def]
  unfold yR AZ;rw[e];simp only[aMu,aMF];omega
def LA (c:C4):List (List UInt8):=ET c++(c.2.2.2.1.map B1).flatten
theorem aKy (c:C4):(LA c).flatten=yR c:=by
  unfold LA yR AZ;rw[List.flatten_append,aC1,List.append_nil,List.flatten_flatten,List.map_map];congr 2;exact List.map_congr_left fun x _=>aC2 x
theorem aKz {c:C4}(h:vS c=true):LN (yR c)=LA c:=by
  obtain⟨_,_,h3,_,h5,_⟩:=L4 h
  have hW:WL (LA c++[]):=aB0 .nil fun y hy=>by
    unfold LA at hy;rcases aM4.1 hy with hy|hy
    ·exact aKt h3 y hy
    · obtain⟨z,hz,hy⟩:=List.mem_flatten.1 hy
      obtain⟨x,hx,rfl⟩:=List.mem_map.1 hz;exact aKu (h5 x hx) y hy
  rw[List.append_nil] at hW;rw[←aKy,aIY hW]
theorem aKA {c:C4}(h:vS c=true):FS (yR c)=some (c.1,c.2.1,c.2.2.1,c.2.2.2.1,((uG c).length::wU (uG c).length (c.2.2.2.1.map tI)).map (fun n:Nat=>(n:Int)),0,0):=by
  obtain⟨h1,h2,h3,h4,h5,h6⟩:=L4 h;have hsm:=aDa h;obtain⟨i1,e1⟩:=aKj (rest:=(c.2.2.2.1.map B1).flatten) h1 h2 h3;obtain⟨i2,a2,e2⟩:=aC3 (tag:=c.1) (cms:=c.2.1) (fds:=c.2.2.1) c.2.2.2.1 [] [((uG c).length:Int)] (uG c).length i1 (by simp) h5 (by simpa using h6) (by simpa using h4) (by simp)
  have hrun:q6 (x4 (LN (yR c))) IE=some (.inl (([((uG c).length:Int)]++(wU (uG c).length (c.2.2.2.1.map tI)).map fun n:Nat=>(n:Int)),c.1,c.2.1,c.2.2.1,[]++c.2.2.2.1,[],[],[],[],[],0,[],false,false,-1)):=by
    rw[aB1 hsm,aKz h];unfold LA;rw[e1,e2];rfl
  unfold FS;rw[a4l hsm,aMs];have hrun':q6 (x4 ((tT (yR c)).map (·.2))) (([]:List Int),(0:Int),(0:Int),([]:List UInt8),([]:List (List UInt8)),([]:List pP),([]:List rC),([]:List UInt8),([]:List UInt8),([]:List UInt8),([]:List (List UInt8)),([]:List (List UInt8)),(0:Int),([]:List pP),false,false,(-1:Int))=_:=hrun;rw[hrun'];unfold sJ;rw[aMs];dsimp only;rw[if_neg (by simp;omega),if_neg (by simp)];rfl
theorem aKB {s:List UInt8}(hsm:s.length≤4000000000): ∃v,zI s=some v∧(v.2.2.2.2.2=0→vS (v.1,(v.2.1,(v.2.2.1,(v.2.2.2.1,()))))=true)∧(v.2.2.2.2.2≠0→v.1=[]∧v.2.1=[]∧v.2.2.1=[]∧v.2.2.2.1=[]):=by
  obtain⟨v,h1,h2,_⟩:=aBV hsm;obtain⟨w,g1,g2,g3⟩:=aCD hsm;unfold NZ at h2;rw[g1,aMs] at h2;cases h2;exact⟨_,h1,fun h=>(g2 h).1,fun h=>⟨(g3 h).1,(g3 h).2.1,(g3 h).2.2.1,(g3 h).2.2.2.1⟩⟩
set_option maxRecDepth 1000000
section
variable {s:List UInt8}(hsm:s.length<=4000000000) {l:List Nat}(hne:l≠[]) (hs:l.Pairwise (·<=·)) (hle: ∀x∈l,x<=s.length) (hl:l.length<=4000000000)
include hsm hne hs hle hl
theorem aKC {r:PS}(hr:r.2.2.2.2.2.1=l.map (fun n:Nat=>(n:Int))):q6 (KM s r) (1,[])=some ((yA s l).drop 1):=by
 have hpos:0<l.length:=aNN.2 hne;have hloop:=a4y (f:=KM s r) (n:=l.length-1) (fun i=>(((i+1:Nat):Int),((List.range (i+1)).map (pc s l)).drop 1)) (r:=(yA s l).drop 1)
  (fun i hi=>by
   have h1:=TJ hle (show i+1<l.length by omega);have h2:=aCn hs (show i<i+1 by omega) (show i+1<l.length by omega);unfold KM;dsimp only;rw[hr,aNv,if_pos (tD (by omega)),if_pos (by unfold pA;omega),show (((i+1:Nat):Int)-1)=(i:Int) by omega,if_pos (rW (by omega)),if_pos (rW (by omega)),TH (show i<l.length by omega),TH (show i+1<l.length by omega),if_pos ⟨Int.natCast_nonneg _,Int.ofNat_le.2 h2,Int.ofNat_le.2 h1⟩,if_pos (by rw[aML,aNv,List.length_range,aNh];omega),if_pos (sS (by omega))];rw[List.range_succ (n:=i+1),List.map_append,List.drop_append_of_le_length (by simp)];rfl)
  (by
   unfold KM;dsimp only;rw[hr,aNv,show l.length-1+1=l.length by omega,if_neg (vP _)]) (l.length-1) 0 (by omega)
 exact hloop
theorem aDb {r:PS}(h:sH s=some r) (hr:r.2.2.2.2.2.1=l.map (fun n:Nat=>(n:Int))):
  zJ s=some (pc s l 0,(yA s l).drop 1,pF s (G3 l:Nat) (s.length:Int),0):=by
 have hpos:0<l.length:=aNN.2 hne;have h0:=TJ hle hpos;have hlast:G3 l<=s.length:=TJ hle (show l.length-1<l.length by omega);unfold zJ;rw[h,if_pos (show (some r).isSome=true from rfl),aMs,if_neg (show¬(!decide ((0:Int)=0))=true by decide),aKC hsm hne hs hle hl hr,hr,aNv,if_pos ⟨aNA _,by omega⟩];have n0:pU (.int .i64) (l.map (fun n:Nat=>(n:Int))) (0:Int)=(l.getD 0 0:Nat):=TH hpos;have n1:pU (.int .i64) (l.map (fun n:Nat=>(n:Int))) ((l.length:Int)-1)=(G3 l:Nat):=by
  rw[show ((l.length:Int)-1)=((l.length-1:Nat):Int) by omega];exact TH (by omega)
 rw[n0,n1,if_pos ⟨aNA _,Int.natCast_nonneg _,Int.ofNat_le.2 h0⟩,if_pos (by unfold pA;omega),if_pos ⟨by omega,by omega⟩,if_pos ⟨Int.natCast_nonneg _,Int.ofNat_le.2 hlast,aNA _⟩];rfl
end
theorem aKD {c:C4}(h:vS c=true):zJ (yR c)=some (uG c,c.2.2.2.1.map tI,[],0):=by
 have hsm:=aDa h;obtain⟨v,h1,_,_,_,_,h2⟩:=TB hsm;rw[aKA h] at h1;cases h1;have hs:yR c=uG c++((c.2.2.2.1.map tI).flatten++[]):=rfl;rcases h2 with⟨e1,_⟩ |⟨e1,_,⟨l,g1,g2,g3,g4⟩,e5,r,p1,_,_,_,_,q⟩
 ·exact absurd rfl e1
 ·have hl:l=(uG c).length::wU (uG c).length (c.2.2.2.1.map tI):=by
   exact((List.map_inj_right (f:=fun n:Nat=>(n:Int)) (fun a b hab=>by
    have hab':(a:Int)=(b:Int):=hab;omega)).1 g1).symm
  have hlen:l.length<=4000000000:=by
   obtain⟨_,_,_,h4,_⟩:=L4 h;rw[hl,aMv,OI,aNv];omega
  have hq:r.2.2.2.2.2.1=l.map (fun n:Nat=>(n:Int)):=q.trans g1;rw[aDb hsm g2 g3 g4 hlen p1 hq,hl,aJG hs,aJH hs,aJI hs]
theorem aKE (s:List UInt8):HZ s=some true:=by
 unfold HZ;rw[aJT,aMs,if_neg (by decide)];by_cases h:decide ((4000:Int)<(s.length:Int))=true
 ·rw[if_pos h]
 ·rw[if_neg h];have hsm:s.length<=4000000000:=by simp at h;omega
  have h4000:s.length<=4000:=by simp at h;omega
  obtain⟨v,h1,_,_,_,_,h2⟩:=TB hsm;obtain⟨w,q1,q2,q3⟩:=aKB hsm;obtain⟨v',g1',g4',_⟩:=aCD hsm;rw[h1] at g1';cases g1';obtain⟨u,u1,u2,_⟩:=aBV hsm;have hw:w=(v.1,v.2.1,v.2.2.1,v.2.2.2.1,v.2.2.2.2.2.1,v.2.2.2.2.2.2):=by
   rw[q1] at u1;cases u1;unfold NZ at u2;rw[h1,aMs] at u2;exact(aMy u2).symm
  rcases h2 with⟨e1,_,_,_,_,p1,p2⟩ |⟨e1,_,⟨l,g1,g2,g3,g4⟩,e5,r,p1,_,_,_,_,q⟩
  ·have hS:zJ s=some ([],[],[],v.2.2.2.2.2.2):=by
    unfold zJ;rw[p1,if_neg (by simp),p2,aMs,if_pos (by simpa using e1)]
   rw[hS,aMs,q1,aMs];have hwe:w.2.2.2.2.2=v.2.2.2.2.2.2:=by rw[hw]
   dsimp only;rw[hwe,if_pos (by simp [e1])];simp
  ·rw[g1,aNv] at e5;have hq:r.2.2.2.2.2.1=l.map (fun n:Nat=>(n:Int)):=by rw[q,g1]
   have hS:=aDb hsm g2 g3 g4 (by omega) p1 hq;rw[hS,aMs,q1,aMs];have hwe:w.2.2.2.2.2=0:=by rw[hw];exact e1
   dsimp only;rw[if_neg (by rw[hwe];simp)];have hok:=q2 hwe;have hw2:=aJE hok;rw[aJ0 hw2,if_pos hok,aMs];dsimp only;rw[aKD hok,aMs,aCN hw2,if_pos hok,aMs];have hbody:=aJJ g2 g3 g4;have hlen:(List.drop 1 (yA s l)).length=l.length-1:=by simp
   rw[a4v (pc s l 0,((yA s l).drop 1,(pF s (G3 l:Nat) (s.length:Int),()))) (by show (List.drop 1 (yA s l)).length<=_;omega) (by show (AZ _ _ _).length<=_;rw[hbody];omega),aMs];dsimp only;rw[hbody];have hcnt:(List.drop 1 (yA s l)).length=w.2.2.2.1.length:=by
    have:=(g4' e1).2;rw[g1,aNv] at this;rw[hlen,hw];show l.length-1=v.2.2.2.1.length;omega
   have hd:=aJj (uG (w.1,(w.2.1,(w.2.2.1,(w.2.2.2.1,())))),((w.2.2.2.1.map tI),(([]:List UInt8),()))) (by
    have:=hw2.len;show (w.2.2.2.1.map tI).length<=5000;rw[aNv];have h9:w.2.2.2.1.length<=1000:=this;omega)
   rw[hd,if_pos wE,hcnt];simp [val]
end Go.Proofs.YtbbpilohihldiaaGreatDoor
namespace Go.Proofs.YtbbpilohihldiaaGreatDoor
open Go.ChangeShapes Go.WideShapes Go.ChangeAt Go.RowKit
section
variable {H:Type}{enc:TypeId×Value->H}{P:Program}
theorem aKF (hl:laidOutB P=true) {W W':World}(hb:Below W.heap.size W W'):
  ∀{ts:List TypeId}{vs:List Value}{ds:List (DataW H)}{ps:List MemPlace},(∀t∈ts,P.readableRec t=true/\t<P.types.size)->
  DataW.TrodAll enc P W 0 (fun _=>true) true ts vs ds ps->(∀x∈ps,x.block<W.heap.size)->
  DataW.TrodAll enc P W' 0 (fun b=>decide (b<W.heap.size)) true ts vs ds ps:=by
 intro ts
 induction ts with
 |nil=>
  intro vs ds ps _ h _;obtain⟨rfl,rfl,rfl⟩:=trodAll_nil h;exact trodAll_mk0
 |cons t ts ih=>
  intro vs ds ps hr h hlt;obtain⟨v,vs',d,ds',p,q,rfl,rfl,rfl,h0,r0⟩:=trodAll_cons h;exact trodAll_cons_mk (Below.trod hl (hr t (by simp)).1 (hr t (by simp)).2 h0 hb (fun x hx=>hlt x (by simp [hx]))) (ih (fun t' ht'=>hr t' (by simp [ht'])) r0 (fun x hx=>hlt x (by simp [hx])))
theorem aKG {f:Func}{s:ChangeSpec}{W W':World}{args:Array Value}{ds gs:List (DataW H)}{before:List MemPlace}{tb:TypeId}
  (hl:laidOutB P=true) (hr: ∀t∈f.params.toList,P.readableRec t=true/\t<P.types.size)
  (hW:DataW.Whole enc P f.params.toList s.vars false W args.toList ds gs before) (hv:s.vars=[])
  (hfn:s.fn H ds={results:=[.lit (.bool true)],args:=ds}) (hrt:f.resultTypes= #[tb]) (htb:P.underlying tb=some .bool)
  (hb:Below W.heap.size W W'):s.post enc P f false true false false W args (.bool true) W':=by
 have hW':=hW;obtain⟨p,q,hA,hV,rfl,hfz,hnd⟩:=hW;rw[hv] at hV;obtain⟨rfl,rfl⟩:=trodVars_none hV;have hlt: ∀x∈p,x.block<W.heap.size:=fun x hx=>by simpa using hW'.lt x (by simp [hx])
 refine⟨ds,[],p++[],[],p,[],hW',?_,?_,?_,hb.frame _,fun h=>by cases h⟩
 ·rw[List.append_nil,hfn,hrt];exact trodAll_mk1 (shut_bool htb true)
 ·rw[List.append_nil,hfn];exact aKF hl hb hr hA hlt
 ·rw[hv,List.append_nil,hfn];rfl
end
section
variable {H:Type}{enc:TypeId×Value->H}
theorem aKH {C:Checked}{f:FuncId}{fn:Func}{s:ChangeSpec}{tb:TypeId}{CV:List (String×DataW Unit)}(own:ownKnob C.prog.godebug=none) {os:Os}(started:os.Started) (F:Stop.Interp)
  (noInit:C.prog.inits.idxOf? f=none) (hfn:C.prog.funcs[f]? =some fn)
  (hl:laidOutB C.prog=true) (hr: ∀t∈fn.params.toList,C.prog.readableRec t=true/\t<C.prog.types.size) (hv:s.vars=[])
  (hrt:fn.resultTypes= #[tb]) (htb:C.prog.underlying tb=some .bool)
  (hspec: ∀(ds:List (DataW H)) (W:World) (args:Array Value) ps,DataW.TrodAll enc C.prog W 0 (fun _=>true) true fn.params.toList args.toList ds ps->s.fn H ds={results:=[.lit (.bool true)],args:=ds})
  (witness: ∃(w:World) (tape:Tape) (i:Input),w.os=os/\(w.forCall tape i).Shaped C.prog/\i.vars=[]/\Input.okWide C.prog (w.forCall tape i) .any w.heap.size f i/\
   (OpenSpec.ofChange s).preRow enc C.prog fn [] false CV (w.forCall tape i).memory i.args/\Assume.holds {} C.prog (lone (Frame.enter C.prog f i.args .normal) [] (w.forCall tape i)))
  (contract: ∀(W:World) (base:Nat) (args:Array Value) (ds:List (DataW H)) (ps:List MemPlace),
   (∀(j:Nat) t v,fn.params[j]? =some t->args[j]? =some v->Value.okWide C.prog W .any base t v)->
   DataW.TrodAll enc C.prog W 0 (fun _=>true) true fn.params.toList args.toList ds ps->
   (∀x∈ps,x.block<W.heap.size)->(DataW.weightsEach C.prog fn.params.toList ds).all (·<=reachBytes)=true->laidMetH C.prog CV W->W.ShapedOpen C.prog->
   Calls C.prog f args W fun e W'=>e= .returned (.bool true)/\Below W.heap.size W W'):
  ReturnsInHanded {} C os f .any ((OpenSpec.ofChange s).preRow enc C.prog fn [] false CV) (s.post enc C.prog fn false true false false):=by
 refine returnsInHanded_of_row (C:=C) (s:=OpenSpec.ofChange s) (F:=F) own started noInit hfn witness ?_;intro W base args ds gs before hval hW _ _ hsz hL hsh _;have hW':=hW;obtain⟨p,q,hA,hV,rfl,hfz,hnd⟩:=hW;have hV':DataW.TrodVars enc C.prog W (fun _=>true) s.vars gs q:=hV;rw[hv] at hV';obtain⟨rfl,rfl⟩:=trodVars_none hV';have hlt: ∀x∈p,x.block<W.heap.size:=fun x hx=>by simpa using hW'.lt x (by simp [hx])
 have hvt:(OpenSpec.ofChange s).bare.plain.varTypes C.prog=[]:=by
  simp [OpenSpec.ofChange,ChangeSpec.plain,hv];rfl
 rw[hvt,List.append_nil,List.append_nil] at hsz;refine(contract W base args ds p hval hA hlt hsz hL hsh).mono fun e W' ⟨he,hb⟩=> ?_;subst he;exact⟨_,rfl,aKG hl hr hW' hv (hspec ds W args p hA) hrt htb hb⟩
end
end Go.Proofs.YtbbpilohihldiaaGreatDoor
namespace Go.Proofs.YtbbpilohihldiaaGreatDoor
open Go.Shelf Go.Lib
open Vc
theorem aKI:(Rows.laid_unicode_utf8_first:DataW Unit)=Lib.firstData:=by kernel_rfl
theorem aKJ:(Rows.laid_unicode_utf8_acceptRanges:DataW Unit)=Lib.acceptData:=by kernel_rfl
def aDc:List Int:=[0,1,56,2,57,49,28,3,61,58,42,50,38,29,17,4,62,47,59,36,45,43,51,22,53,39,33,30,24,18,12,5,63,55,48,27,60,41,37,16,46,35,44,21,52,32,23,11,54,26,40,15,34,20,31,10,25,14,19,9,13,8,7,6]
theorem aKK:(Rows.laid_math_bits_deBruijn64tab:DataW Unit)=Lib.tabData .u8 aDc:=by kernel_rfl
theorem aKL {P:Program}{w:World}{g:Nat}{t:TypeId}{k:IntKind}{zero:Array Value}(h:w.ShapedOpen P) (hg:g<P.globals.size)
  (h0:((begin P (fun _ _=>0) default).world.heap[g]?).bind Obj.row? =some (zero,t)) (hz:zero.size=1)
  (hb:P.buildable t=true) (hc:P.cellTypes P.depth t=some [t]) (hu:P.underlying t=some (.int k)): ∃m,w.cell? ⟨g,0,none⟩=some (.int k m):=by
 obtain⟨cs,hh,hs,hr⟩:=h.1 g zero t hg h0;obtain⟨ts,hts,_,hall⟩:=hr hb;rw[hc] at hts;cases hts;have h1:0<cs.size:=by omega
 obtain⟨u,hu',hok⟩:=hall 0 cs[0] (by simp [h1]);have:u=t:=by simpa using hu'.symm
 subst this;have hcell:w.cell? ⟨g,0,none⟩=some cs[0]:=by simp [World.cell?,hh,h1]
 rw[hcell];unfold Cell.ok at hok;rw[hu] at hok;cases hv:cs[0]<;>rw[hv] at hok<;>simp at hok
 rename_i k' m;exact⟨m,by rw[hok.1]⟩
theorem aKM {W:World}(hsh:W.ShapedOpen Tryz.prog): ∃m,W.cell? ⟨0,0,none⟩=some (.int .i64 m):=
 aKL (t:=3) (zero:= #[.int .i64 0]) hsh (aNi (by kernel_rfl)) (by kernel_rfl) rfl (by kernel_rfl) (by kernel_rfl) Tryz.underlying3
def aKN:Ren:=⟨fun x=>x,fun x=>if x=5 then 5 else if x=119 then 254 else if x=138 then 256 else 257,fun x=>if x=3 then 1 else 2⟩
theorem aKO {w:World}{a:Addr}{v:Value}(h:w.cell? a=some v):a.block<w.heap.size:=by
 unfold World.cell? at h;split at h
 ·rename_i hb;exact(aMQ.1 hb).1
 ·cases h
theorem aKP {W:World}(hL:laidMet Tryz.prog Rows.treePrintRow.laid W) (hsh:W.ShapedOpen Tryz.prog):G6 W:=by
 obtain⟨m,hm⟩:=aKM hsh;have h0:=laidMet.reads hL (.tail _ (.head _));have h1:=laidMet.reads hL (.tail _ (.tail _ (.tail _ (.head _))));have h2:=laidMet.reads hL (.tail _ (.tail _ (.tail _ (.tail _ (.head _)))));rw[aKK] at h0;rw[aKI] at h2;rw[aKJ] at h1;have hU:Lib.Utf8Tabs 1 2 W:=utf8Tabs_of_readsT (ρ:=aKN) ⟨by kernel_rfl,by kernel_rfl,by kernel_rfl,by kernel_rfl⟩ ⟨by kernel_rfl,by kernel_rfl,by kernel_rfl,by kernel_rfl,by kernel_rfl,by kernel_rfl,by kernel_rfl⟩ h2 h1;have hT:W.cell? ⟨5,15,none⟩=some (.int .u8 4):=by
  obtain⟨g,t,cs,fuel,p,hg,ht,hv,hd⟩:=h0;have hg0:Tryz.prog.globalNamed "math/bits.deBruijn64tab" =some 5:=by kernel_rfl
  have ht0:(Tryz.prog.globals[5]?).map (·.type)=some 289:=by kernel_rfl
  obtain rfl:=aMy (hg0.symm.trans hg);obtain rfl:=aMy (ht0.symm.trans ht);have hc:=cells_of_tab Tryz.underlying289 Tryz.underlying5 (by kernel_rfl) (by kernel_rfl) hd;rw[World.var?_cell hg hv 15,<-aNy,hc];rfl
 refine⟨?_,hU,⟨m,hm⟩,fun x hx=> ?_⟩
 ·have b0:5<W.heap.size:=aKO hT;show 6<=W.heap.size;omega
 ·unfold a4T at hx;obtain rfl:=aME.1 hx;exact⟨by decide,hT⟩
noncomputable def TW (os:Os):World:=
 let w0:=World.holding Tryz.prog os ⟨#[],#[],[]⟩
 let sC (h:Array Obj) (g:Nat) (cs:Array Value):Array Obj:=h.modify g fun
  | .cells _ t frozen=> .cells cs t frozen
  |o=>o
 let h1:=sC w0.heap 1 (Lib.firstTab.map fun z=>Value.int .u8 z).toArray
 let h2:=sC h1 2 ((List.range 16).flatMap fun i=>[Value.int .u8 (Lib.accLo i),Value.int .u8 (Lib.accHi i)]).toArray
 let h3:=sC h2 5 (aDc.map fun z=>Value.int .u8 z).toArray
 let h4:=sC h3 4 (([0,1,28,2,29,14,24,3,30,22,20,15,25,17,4,8,31,27,13,23,21,19,16,7,26,12,18,6,11,5,10,9]:List Int).map fun z=>Value.int .u8 z).toArray
 let h5:=sC h4 3 ((List.range 20).map fun i=>Value.int .u64 (10^i)).toArray
 {w0 with heap:=h5}
theorem aKQ (os:Os) (args:Array Value):laidMet Tryz.prog Rows.treePrintRow.laid ((TW os).forCall (fun _ _=>0) ⟨#[],args,[]⟩).memory:=
 (LaidIn.of_run [4,5,3,2,1] 8 (by kernel_rfl) (by kernel_rfl) (by kernel_rfl) (by kernel_rfl):LaidIn Tryz.prog _ Rows.treePrintRow.laid _).met
end Go.Proofs.YtbbpilohihldiaaGreatDoor
namespace Go.Proofs.YtbbpilohihldiaaGreatDoor
open Vc Go.RowKit
inductive a4R where
 |ty (t:TypeId) |fs (o:Nat) (l:List Field)
inductive zR (P:Program):a4R->Ty->Prop
 |bool {t}:P.underlying t=some .bool->zR P (.ty t) .bool
 |int {t k}:P.underlying t=some (.int k)->zR P (.ty t) (.int k)
 |str {t}:P.underlying t=some .string->zR P (.ty t) .str
 |list {t e u}:P.underlying t=some (.slice e)->P.cellsOf e=u.cells->0<u.cells->0<P.bytesOf e->zR P (.ty e) u->zR P (.ty t) (.list u)
 |struct {t fs ty}:ty.isRow=true->P.underlying t=some (.struct fs)->P.cellsOf t=ty.cells->zR P (.fs 0 fs.toList) ty->zR P (.ty t) ty
 |nil {o}:zR P (.fs o []) .unit
 |cons {o}{f:Field}{r a b}:f.offset=o->P.cellsOf f.type=a.cells->zR P (.ty f.type) a->zR P (.fs (o+a.cells) r) b->zR P (.fs o (f::r)) (.pair a b)
def Bd:(t:Ty)->t.den->Prop
 | .str,s=>List.length s<=140737488351232
 | .int k,n=>(Lit.int k n).wf=true
 | .list u,l=>List.length l<=140737488351232/\∀x:u.den,x∈(l:List u.den)->Bd u x
 | .pair a b,x=>Bd a x.1/\Bd b x.2
 |_,_=>True
def G5 (w:World):Gh:=⟨fun b _=>b<w.heap.size,fun _=>none,fun _ _=>none⟩
theorem aDd {α:Type}{R:α->List Value->Prop}{w:World}{S:Nat->Nat->Prop}{c b:Nat}: ∀{l:List α}{o:Nat},(∀i x,l[i]? =some x->∃cs,cs.length=c/\w.rangeAt b (o+i*c) cs/\(∀j,j<c->S b (o+i*c+j))/\R x cs)->wQ R w S c b o l
 |[],_,_=>trivial
 |x::l,o,h=>by
  refine⟨?_,aDd fun i y hy=> ?_⟩
  ·obtain⟨cs,h1,h2,h3,h4⟩:=h 0 x rfl;exact⟨cs,h1,by simpa using h2,by simpa using h3,h4⟩
  ·obtain⟨cs,h1,h2,h3,h4⟩:=h (i+1) y (by simpa using hy);have e:o+(i+1)*c=o+c+i*c:=by rw[aNx];omega
   exact⟨cs,h1,by rw[<-e];exact h2,by rw[<-e];exact h3,h4⟩
section
variable {H:Type}{enc:TypeId×Value->H}{P:Program}{W:World}
theorem aDe {e:TypeId}: ∀{l:List (DataW H)}{i:Nat}{d:DataW H},l[i]? =some d->∀n∈d.weights P e,n∈DataW.weightsAll P e l
 |d0::l,0,d,h,n,hn=>by
  simp only[aMY,aMt] at h;subst h;simp only[DataW.weightsAll,aM4];exact .inl hn
 |d0::l,i+1,d,h,n,hn=>by
  simp only[aNd] at h;simp only[DataW.weightsAll,aM4];exact .inr (aDe h n hn)
 |[],_,_,h,_,_=>by simp at h
def aKR (enc:TypeId×Value->H) (P:Program) (W:World):a4R->Ty->Prop
 | .ty t,u=> ∀(fuel:Nat) (cs:List Value) (y:DataW H×List MemPlace),DataW.trod enc P W 0 (fun _=>true) true fuel t cs=some y->(∀n∈y.1.weights P t,n<=reachBytes)->∃x:u.den,Rd (G5 W) W u x cs/\Bd u x
 | .fs o l,u=> ∀(fuel:Nat) (cs:List Value) (xs:List (DataW H×List MemPlace)),cs.length=o+u.cells->xs.length=l.length->(∀(i:Nat) (f:Field),l[i]? =some f->DataW.trod enc P W 0 (fun _=>true) true fuel f.type ((cs.drop f.offset).take (P.cellsOf f.type))=xs[i]?)->(∀n∈DataW.weightsEach P (l.map (·.type)) (xs.map (·.1)),n<=reachBytes)->∃x:u.den,Rd (G5 W) W u x (cs.drop o)/\Bd u x
theorem aKS {e:TypeId}{u:Ty}{a:Addr}{len cap:Nat}(hc:P.cellsOf e=u.cells) (hpos:0<u.cells) (hcap:len<=cap)
  (each: ∀i,i<len->∃(cs:List Value) (x:u.den),W.cells? 0 (a.add (i*u.cells)) u.cells=some cs/\Rd (G5 W) W u x cs/\Bd u x):
  ∃l:List u.den,l.length=len/\Rd (G5 W) W (.list u) l [.slice (some a) len cap]/\∀x∈l,Bd u x:=by
 have build: ∀k,k<=len->∃l:List u.den,l.length=k/\∀i x,l[i]? =some x->∃cs:List Value,W.cells? 0 (a.add (i*u.cells)) u.cells=some cs/\Rd (G5 W) W u x cs/\Bd u x:=by
  intro k
  induction k with
  |zero=>intro _;exact⟨[],rfl,fun i x h=>by simp at h⟩
  |succ k ih=>
   intro hk;obtain⟨l,h1,h2⟩:=ih (by omega);obtain⟨cs,x,h3,h4⟩:=each k (by omega);refine⟨l++[x],by simp [h1],fun i y hy=> ?_⟩;rw[List.getElem?_append] at hy;split at hy
   ·exact h2 i y hy
   ·rename_i hi;obtain⟨j,hj⟩: ∃j,i=l.length+j:=⟨i-l.length,by omega⟩;subst hj;rw[aNb] at hy;cases j with
    |zero=>
     simp only[aMY,aMt] at hy;subst hy;exact⟨cs,by rw[aNW,h1];exact h3,h4⟩
    |succ j=>simp at hy
 obtain⟨l,hll,hle⟩:=build len (Nat.le_refl _);refine⟨l,hll,?_,fun x hx=> ?_⟩
 ·subst hll;by_cases hl0:l=[]
  ·subst hl0;exact⟨some a,cap,rfl,hcap,.inl rfl⟩
  ·obtain⟨b,off,spot⟩:=a;have hlp:0<l.length:=aNN.2 hl0;have hspot:spot=none:=by
    obtain⟨cs,x,h3,_⟩:=each 0 hlp;have h4:=(World.cells?_some h3).2.2 0 hpos;have hlen0:=(World.cells?_some h3).2.1;rw[aMA (by omega)] at h4;simpa[Addr.add] using World.cell?_spot h4
   subst hspot;refine⟨_,cap,rfl,hcap,.inr ⟨b,off,rfl,aDd fun i x hx=> ?_⟩⟩;obtain⟨cs,h3,h4,_⟩:=hle i x hx;obtain⟨_,h5,h6⟩:=World.cells?_some h3;have hcell: ∀j v,cs[j]? =some v->W.cell? ⟨b,off+i*u.cells+j,none⟩=some v:=by
    intro j v hv;have hj:j<u.cells:=by have:=(aMG.1 hv).1;omega
    have:=h6 j hj;rw[hv] at this;rw[aOk,aOk] at this;exact this
   refine⟨cs,h5,hcell,fun j hj=> ?_,h4⟩;exact Vc.Q4 (hcell 0 _ (aMA (by omega)))
 ·obtain⟨i,hi,he⟩:=aN5 hx;obtain⟨cs,h3,h4,h5⟩:=hle i x (by rw[aMA hi,he]);exact h5
theorem aKT {ix:a4R}{u:Ty}(h:zR P ix u):aKR enc P W ix u:=by
 induction h with
 |bool ht=>
  intro fuel cs y hy _;obtain⟨b,rfl,_⟩:=DataW.trod_bool ht hy;exact⟨b,rfl,trivial⟩
 |int ht=>
  intro fuel cs y hy _;obtain⟨n,rfl,_,hw⟩:=DataW.trod_int ht hy;exact⟨n,rfl,hw⟩
 |str ht=>
  intro fuel cs y hy hw;obtain⟨s,rfl,rfl,_⟩:=DataW.trod_string ht hy;refine⟨s.data.toList,by show [Value.string s]=[Value.string ⟨s.data.toList.toArray⟩];rw[aN1],?_⟩;exact hw _ (by simp [DataW.weights])
 | @list t e u ht hc hpos hb _ ih=>
  intro fuel cs y hy hw;rcases DataW.trod_slice ht hy with⟨rfl,_⟩ |⟨a,len,cap,elems,rest,n,_,rfl,rfl,_,hl,_,hlen,hall,_,_⟩
  ·exact⟨[],⟨none,0,rfl,Nat.le_refl _,.inl rfl⟩,by simp,fun x hx=>by cases hx⟩
  ·have hws:DataW.weights P t (.slice (elems.map (·.1)) (rest.map (·.1)))=((elems.map (·.1)).length+(rest.map (·.1)).length)*P.bytesOf e::(DataW.weightsAll P e (elems.map (·.1))++DataW.weightsAll P e (rest.map (·.1))):=by
    simp [DataW.weights,ht]
   rw[hws] at hw;have hn:=hw _ aMO;obtain⟨l,h1,h2,h3⟩:=aKS (W:=W) (a:=a) (cap:=cap) hc hpos hl fun i hi=>by
    have h1:=hall i hi;rw[hc,aMA (by omega),Option.bind_eq_some_iff] at h1;obtain⟨cs,h2,h3⟩:=h1;obtain⟨x,hx⟩:=ih n cs _ h3 fun m hm=>hw m (by
     refine aMH _ (aM4.2 (.inl (aDe (i:=i) ?_ m hm)));rw[List.getElem?_map,aMA (by omega)];rfl)
    exact⟨cs,x,h2,hx⟩
   refine⟨l,h2,?_,h3⟩;have:elems.length<=(elems.length+rest.length)*P.bytesOf e:=by
    calc elems.length<=(elems.length+rest.length)*1:=by omega
     _<=_:=Nat.mul_le_mul_left _ hb
   simp only[aNv] at hn;have hr:reachBytes=140737488351232:=rfl;show l.length<=_;omega
 |struct hrow ht hcl _ ih=>
  intro fuel cs y hy hw;obtain⟨xs,n,rfl,rfl,hl,hlen,hf⟩:=DataW.trod_struct ht hy;have:=ih n cs xs (by rw[hl,hcl];omega) (by rw[hlen];simp) (fun i f hi=>hf i f (by simpa using hi)) fun m hm=>hw m (by simpa[DataW.weights,ht] using hm);rwa [aNw] at this
 |nil=>
  intro fuel cs xs hl _ _ _;refine⟨(),?_,trivial⟩;show cs.drop _=[];exact List.drop_of_length_le (by simp [Ty.cells] at hl;omega)
 | @cons o f r a b ho hc _ _ iha ihb=>
  intro fuel cs xs hl hx hf hw;cases xs with
  |nil=>simp at hx
  |cons x0 xs=>
   have h0:=hf 0 f rfl;rw[hc,ho] at h0;obtain⟨xa,ra,ba⟩:=iha fuel _ x0 h0 fun m hm=>hw m (by simp only[aNt,DataW.weightsEach,aM4];exact .inl hm);obtain⟨xb,rb,bb⟩:=ihb fuel cs xs (by simp only[Ty.cells] at hl;omega) (by simpa using hx) (fun i f' hi=>by have:=hf (i+1) f' (by simpa using hi);simpa using this) fun m hm=>hw m (by simp only[aNt,DataW.weightsEach,aM4];exact .inr hm);refine⟨(xa,xb),⟨_,_,(aNE a.cells (cs.drop o)).symm,ra,?_⟩,ba,bb⟩;rw[aOe];exact rb
theorem aKU {t:TypeId}{u:Ty}{base:Nat}{v:Value}{d:DataW H}{ps:List MemPlace}(h:zR P (.ty t) u) (hok:Value.okWide P W .any base t v) (hT:DataW.Trod enc P W 0 (fun _=>true) true t v d ps) (hw: ∀n∈d.weights P t,n<=reachBytes): ∃x:u.den,s5 (G5 W) W u x v/\Bd u x:=by
 obtain⟨fuel,hf⟩:=hT;obtain⟨x,hx,hb⟩:=aKT (enc:=enc) (W:=W) h fuel _ _ hf hw;refine⟨x,?_,hb⟩;cases h with
 |bool ht=>obtain⟨b,rfl⟩:=Go.WideShapes.okWide_bool ht hok;exact .inr ⟨rfl,hx⟩
 |int ht=>obtain⟨b,rfl⟩:=Go.WideShapes.okWide_int ht hok;exact .inr ⟨rfl,hx⟩
 |str ht=>obtain⟨b,rfl⟩:=Go.WideShapes.okWide_string ht hok;exact .inr ⟨rfl,hx⟩
 |list ht=>obtain⟨a,l,c,rfl⟩:=Go.WideShapes.okWide_slice ht hok;exact .inr ⟨rfl,hx⟩
 |struct hrow ht=>obtain⟨cs,rfl,_⟩:=Go.WideShapes.okWide_struct ht hok;exact .inl ⟨hrow,cs.toList,by rw[aN1],hx⟩
end
end Go.Proofs.YtbbpilohihldiaaGreatDoor
namespace Go.Proofs.YtbbpilohihldiaaGreatDoor
open Vc
open Go.ChangeShapes Go.WideShapes Go.ChangeAt Go.RowKit
theorem aKV:zR Tryz.prog (.ty 9) .str:= .str Tryz.underlying9
theorem aKW {W:World}(hT:G6 W) (u:Value) (s:List UInt8) (hu:s5 (G5 W) W .str s u):
  Calls Tryz.prog 14 #[u] W fun e W'=>e= .returned (.bool true)/\Below W.heap.size W W':=by
 have hC:a3H (O2 s) ST=some (KN s):=aHl _;have ht:=aKE s;refine(aHn.1.2 (G5 W) W (O2 s) [u] [] _ ⟨(fun i b h=>by cases h),(fun i j bi bj b o _ h=>by cases h),fun b o h=>h,hT,(fun i blk b o h=>by cases h)⟩ ⟨u,[],rfl,⟨hu,trivial⟩,rfl⟩ hC ?_).mono fun e W' ⟨v,g',he,r⟩=> ?_
 ·intro p hp;have:p=((HZ s).isSome=true):=by simpa[KN] using hp
  rw[this,ht];rfl
 ·have hv:v= .bool true:=by
   have h1:=r.ret;unfold KN at h1;rw[ht] at h1;exact vL h1.1
  subst hv;exact⟨he,⟨r.fr.os,r.fr.tape,r.fr.output,r.fr.size,fun k hk=>r.fr.blk k hk (fun o ⟨i,blk,hi,_⟩=>by cases hi)⟩⟩
end Go.Proofs.YtbbpilohihldiaaGreatDoor
namespace Go.Proofs.YtbbpilohihldiaaGreatDoor
open Go.ChangeShapes Go.WideShapes Go.ChangeAt Go.RowKit Go.Lib
theorem aKX:(Rows.propsWholeRow.inPlace==Tryz.prog.inPlace 14)=true:=by kernel_rfl
theorem aKY:(Rows.propsWholeRow.unfollowed==Tryz.prog.unfollowed 14)=true:=by kernel_rfl
theorem aKZ:(Rows.propsWholeRow.recurses==Tryz.prog.recurses 14)=true:=by kernel_rfl
theorem aK0:(Rows.propsWholeRow.named==Tryz.prog.varsNamed 14)=true:=by kernel_rfl
theorem aK1:joinedFacts Tryz.prog 14 Tryz.f14 Rows.propsWholeSpec Rows.propsWholeRow=true:=by
 unfold joinedFacts;rw[aKX,aKY,aKZ,aK0]
 kernel_rfl
namespace propsWholeLaw
theorem own:ownKnob Tryz.prog.godebug=none:=by kernel_rfl
theorem CV:laidOutB Tryz.prog=true:=by kernel_rfl
theorem aK2:Tryz.prog.readableRec 9=true:=by kernel_rfl
theorem ltS:9<Tryz.prog.types.size:=aNi (by kernel_rfl)
theorem aK4 (os:Os) {H:Type}(enc:TypeId×Value->H):
  (OpenSpec.ofChange Rows.propsWholeSpec).preRow enc Tryz.prog Tryz.f14 [] false Rows.propsWholeRow.laid ((TW os).forCall (fun _ _=>0) ⟨#[],#[.string ⟨#[]⟩],[]⟩).memory #[.string ⟨#[]⟩]:=by
 have hw:(DataW.whole enc Tryz.prog ((TW os).forCall (fun _ _=>0) ⟨#[],#[.string ⟨#[]⟩],[]⟩).memory Tryz.f14.params.toList (OpenSpec.ofChange Rows.propsWholeSpec).vars false #[.string ⟨#[]⟩].toList 8).map (fun x=>(x.1,x.2.1))=
   some ([.lit (.string [])],[]):=by kernel_rfl
 obtain⟨⟨x1,x2,x3⟩,hx,hx1⟩:=aMI.1 hw;simp only[aMX] at hx1;obtain⟨rfl,rfl⟩:=hx1;exact OpenSpec.preRow_of_cond 8 hx (by kernel_rfl) (fun k hk=>by cases hk) (by kernel_rfl) (aKQ os _)
theorem lifted (os:Os) (started:os.Started) (H:Type) (enc:TypeId×Value->H) (F:Stop.Interp):
  ReturnsInHanded {} Tryz.checked os 14 .any ((OpenSpec.ofChange Rows.propsWholeSpec).preRow enc Tryz.prog Tryz.f14 [] false Rows.propsWholeRow.laid) (Rows.propsWholeSpec.post enc Tryz.prog Tryz.f14 false true false false):=by
 refine aKH (C:=Tryz.checked) (tb:=4) own started F (by kernel_rfl) Tryz.func14 CV ?_ rfl rfl Tryz.underlying4 ?_
  (witness_row_atRef (enc:=enc) (C:=Tryz.checked) false (TW os) #[.string ⟨#[]⟩] rfl (by kernel_rfl) (by kernel_rfl) (by kernel_rfl) (aK4 os enc)) ?_
 ·intro t ht;rw[Tryz.params14] at ht;simp only[aMK,aOr,or_false] at ht;rcases ht with rfl
  exact⟨aK2,ltS⟩
 ·intro ds W args ps h;have h':DataW.TrodAll enc Tryz.prog W 0 (fun _=>true) true Tryz.f14.params.toList args.toList ds ps:=h;rw[Tryz.params14] at h';obtain⟨v0,d0,rfl,rfl,h0⟩:=trodAll_one h';rfl
 ·intro W base args ds ps hval0 hA0 hlt hsz0 hL hsh;have hval: ∀(j:Nat) t v,Tryz.f14.params[j]? =some t->args[j]? =some v->Value.okWide Tryz.prog W .any base t v:=hval0;have hA:DataW.TrodAll enc Tryz.prog W 0 (fun _=>true) true Tryz.f14.params.toList args.toList ds ps:=hA0;have hsz:(DataW.weightsEach Tryz.prog Tryz.f14.params.toList ds).all (·<=reachBytes)=true:=hsz0;rw[Tryz.params14] at hA hval hsz;obtain⟨v0,d0,rfl,rfl,h0⟩:=trodAll_one hA;obtain⟨s,hu,_⟩:=aKU aKV (hval 0 9 v0 rfl rfl) h0 (fun n hn=>by
   have:=aNa.1 hsz n (DataW.weights_mem_each (j:=0) rfl rfl n hn);simpa using this)
  exact aKW (aKP hL hsh) v0 s hu
end propsWholeLaw
theorem aDf:Rows.PropsWholeSaid:=
 OpenClaim.holds_of_wide 14 Tryz.f14 rfl rfl rfl rfl rfl rfl rfl ⟨rfl,rfl,rfl,rfl,rfl⟩ rfl rfl rfl rfl rfl (by kernel_rfl) Tryz.func14 aK1
  (aNi (by kernel_rfl)) (by unfold Func.isWrapper;first|(rw[if_pos (by decide+kernel)];kernel_rfl) |(rw[if_neg (by decide+kernel)];exact⟨rfl,rfl⟩))
  (fun os started H enc _=>by rw[OpenClaim.pre_eq_preRow];exact propsWholeLaw.lifted os started H enc (fun _ _ _=>0))
#print axioms aDf
end Go.Proofs.YtbbpilohihldiaaGreatDoor
namespace Go.Proofs.YtbbpilohihldiaaGreatDoor
open Go
theorem aK5:Rows.propsWholeRow.wfByText (OpenSpec.ofChange Rows.propsWholeSpec)=true:=by kernel_rfl
theorem aK6:Tryz.prog.mainIs=some (true, "a32bce6e8aa7af12dc4e9cc10fcfd390a8b62eedc0063c9f8df073b3dc5897a3".toList):=by kernel_rfl
theorem aK7:false=Tryz.prog.looks []:=by kernel_rfl
theorem aK8:false=Rows.propsWholeRow.goesBy Tryz.prog:=by kernel_rfl
theorem aK9:Tryz.prog.funcNamed "calque/calquelaw38.PropsWhole" =some 14:=by kernel_rfl
theorem aLa:([9].all fun u=> !Tryz.prog.wantsStandIn u)=true:=by kernel_rfl
theorem propsWholeCard_holds:Rows.PropsWholeCardSaid:=
 Claim7.holds_tied_plain_at .later [] [.data,.data,.data,.data,.pinned] true (true, "a32bce6e8aa7af12dc4e9cc10fcfd390a8b62eedc0063c9f8df073b3dc5897a3") false
  aDf (fun _ h=>by cases h) aK5 (fun _ h=>by cases h) propsWhole_row_tie rfl ⟨rfl,rfl⟩ aK6 rfl
  (fun f fn hf hfn=>by
   obtain rfl:f=14:=aMy (aK9.symm.trans hf) |>.symm
   obtain rfl:fn=Tryz.f14:=(aMy (Tryz.func14.symm.trans hfn)).symm;exact⟨aK7,fun j t ht=>by
    rw[Tryz.params14] at ht;have hm:t∈[9]:=by simpa using Array.mem_of_getElem? ht
    exact(show Tryz.prog.wantsStandIn t=false by simpa using aNa.1 aLa t hm)⟩)
  aK8
#print axioms propsWholeCard_holds
end Go.Proofs.YtbbpilohihldiaaGreatDoor
