/- ElementsFree returns true for all arguments (further blanks and notes at the beginning of any piece, and at the end of the body, change nothing): the tied card of the statement, over the row's statement. No condition. -/
/- Packed by a program of mine (wip/tools/pack.py): the same texts with short names and few blanks. -/
import Derived.Deep.CondSized
import Derived.Deep.DeepHandedRow
import Derived.Deep.DeepWitnessRowRef
import Derived.Lib.CountLaws
import Derived.Lib.IndexMore
import Derived.Lib.LaidIn
import Derived.Lib.LaidTab
import Derived.Lib.LaidU8T
import Derived.Lib.RowBridge
import Derived.Lib.SpaceR
import Derived.OpenShut
import Derived.ProofKit
import Derived.SevenTiedAt
import Derived.SizedLaws
import Derived.Test.YtkpflnijijccpaaGreatDoorCards
import Derived.Test.YtkpflnijijccpaaGreatDoorRows
import Derived.Test.YtkpflnijijccpaaGreatDoorTie
import Derived.WalkKit
import Derived.Test.YtkpflnijijccpaaGreatDoorF003
set_option linter.defProp false
set_option linter.unusedVariables false
set_option linter.unusedSimpArgs false
set_option linter.unusedSectionVars false
set_option maxRecDepth 100000
set_option maxHeartbeats 4000000
namespace Go.Proofs.YtkpflnijijccpaaGreatDoor
open Vc
noncomputable section
def blk (b:UInt8):Bool:=([32,9,10,13]:pD).contains b
def HM (s:pD):Bool:=s.all blk
theorem UE (s:pD):Lib.trimLeftS s ([32,9,10,13]:pD)=s.dropWhile blk:=rfl
theorem a5a {α:Type}{p:α→Bool}: ∀{l:List α},l.dropWhile p=[]↔l.all p=true
  |[]=>by simp
  | x::l=>by
    rw[List.dropWhile_cons,List.all_cons];cases h:p x with
    |true=>simp [a5a (l:=l)]
    |false=>simp
theorem aCE (s:pD):decide (Lib.trimS s ([32,9,10,13]:pD)=[])=HM s:=by
  have h:Lib.trimS s ([32,9,10,13]:pD)=[]↔HM s=true:=by
    unfold Lib.trimS Lib.trimLeftS Lib.trimRightS;rw[a5a]
    have h2:((s.reverse.dropWhile (([32,9,10,13]:pD).contains ·)).reverse).all (([32,9,10,13]:pD).contains ·)=true↔s.reverse.dropWhile (([32,9,10,13]:pD).contains ·)=[]:=by
      rw[List.all_reverse];constructor
      · intro h
        cases hq:s.reverse.dropWhile (([32,9,10,13]:pD).contains ·) with
        |nil=>rfl
        | cons b r=>
          have hb:=List.head?_dropWhile_not (([32,9,10,13]:pD).contains ·) s.reverse;rw[hq] at hb h;simp only[List.head?_cons,List.all_cons,aMb] at hb h;rw[h.1] at hb;cases hb
      .intro h;rw[h];rfl
    rw[h2,a5a,List.all_reverse];rfl
  cases hb:HM s with
  |true=>exact aMg (h.2 hb)
  |false=>exact decide_eq_false fun hh=>by rw[h.1 hh] at hb;cases hb
def PW (b:UInt8):Bool:=decide ((97:Int)≤(b.toNat:Int))&&decide ((b.toNat:Int)≤122)
def tN (s:pD):Nat:=(s.findIdx? fun b=> !PW b).getD s.length
theorem PX (s:pD):tN s≤s.length:=by
  unfold tN;cases h:s.findIdx? fun b=> !PW b with
  |none=>exact aMc _
  |some k=>exact Nat.le_of_lt (aMO.1 h).1
theorem a5b {s:pD}(hs:s.length≤1000000000):DB s=some (s.take (tN s),s.drop (tN s)):=by
  have h:=aIa (f:=OW s) (l:=s) PW (fun i h=>by
    unfold OW;rw[aLQ (fun _=>uK h),aLQ (fun _=>uK h),aB1 h]
    have h1:((((decide ((i:Int)<(List.length s:Int)))&&(decide ((97:Int)≤(s[i].toNat:Int))))&&(decide ((s[i].toNat:Int)≤(122:Int))))=true)=(PW s[i]=true):=by
      unfold PW;rw[wJ h,Bool.true_and]
    simp only[h1];rw[aLQ (xW pG)]) (by
    unfold OW;have h0:decide ((s.length:Int)<(s.length:Int))=false:=by simp
    rw[h0];rw[aLQ (fun h=>by cases h),aLQ (fun h=>by cases h)];rfl)
  have hle:=PX s;unfold DB;rw[h];unfold t8;rw[aLP];show (if 0≤(0:Int)∧(0:Int)≤(tN s:Int)∧(tN s:Int)≤(s.length:Int) then(if 0≤(tN s:Int)∧(tN s:Int)≤(s.length:Int)∧(s.length:Int)≤(s.length:Int) then some (sD s 0 (tN s:Int),sD s (tN s:Int) (s.length:Int)) else none) else none)=_;rw[aLQ ⟨pG,pG,pG⟩,aLQ ⟨pG,pG,pG⟩,a4W,PT]
def DL (s:pD):pD×pD×Bool:=if 0≤Lib.indexByte s 34 then(s.take (Lib.indexByte s 34).toNat,s.drop ((Lib.indexByte s 34).toNat+1),true) else(s,[],false)
theorem aIL {s:pD}(hs:s.length≤1000000000):FT s [34]=some (DL s):=by
  have hi:xS s [34]=Lib.indexByte s 34:=Lib.index_one s 34;have hr:=UC s 34;unfold FT H7 DL;rw[hi,aLQ pG];by_cases h:0≤Lib.indexByte s 34
  · rw[aLQ (aMg h),aLQ ⟨pG,h,pG⟩,aLQ (by simp;unfold qE;omega),aLQ ⟨by simp;omega,by simp;omega,aM5 _⟩,aLQ h]
    unfold sD;simp only[aLP,aLY,aMh];rw[aMK];have e1:(Lib.indexByte s 34+((0+1:Nat):Int)).toNat=(Lib.indexByte s 34).toNat+1:=by omega
    rw[e1];have e2:(s.drop ((Lib.indexByte s 34).toNat+1)).take (s.length- ((Lib.indexByte s 34).toNat+1))=s.drop ((Lib.indexByte s 34).toNat+1):=List.take_of_length_le (by rw[aL8];omega);rw[e2];simp
  .rw[aLU (by simpa using h),aLU h];rfl
def JW (s:pD):Option (pD×pD×pD):=
  if tN s=0 then none else
  if (x4 (s.drop (tN s)) [61,34]).2=false then none else
  if (DL (x4 (s.drop (tN s)) [61,34]).1).2.2=false then none else
  match yA (DL (x4 (s.drop (tN s)) [61,34]).1).1 with
  |some v=>some (s.take (tN s),v,(DL (x4 (s.drop (tN s)) [61,34]).1).2.1)
  |none=>none
theorem aCF (s p:pD):(x4 s p).1.length≤s.length:=by
  unfold x4;split
  .rw[aL8];omega
  .exact aMc _
theorem aCG (s:pD):(DL s).1.length≤s.length∧(DL s).2.1.length≤s.length:=by
  unfold DL;split
  .rw[aMd,aL8];exact⟨pG,pG⟩
  .exact⟨aMc _,by simp⟩
theorem aIM {s:pD}(hs:s.length≤1000000000): ∃r,EJ s=some r∧r.2.2.1.length≤s.length∧(match JW s with
    |some (n,v,rest)=>r=(n,v,rest,true)
    |none=>r.2.2.2=false):=by
  have hw:=a5b hs;have h1:=aCF (s.drop (tN s)) [61,34];rw[aL8] at h1;have h2:=aCG (x4 (s.drop (tN s)) [61,34]).1;obtain⟨t,ht1,ht2⟩:=aCD (s:=(DL (x4 (s.drop (tN s)) [61,34]).1).1) pG;unfold EJ;rw[hw,aLP,UB,aLP,aIL (by show (x4 (s.drop (tN s)) [61,34]).1.length≤1000000000;omega),aLP,ht1,aLP];refine⟨_,rfl,by dsimp only;omega,?_⟩;unfold JW
  have hk:(s.take (tN s)=[])↔tN s=0:=by
    have:=PX s;constructor
    · intro h
      have:=aL9 List.length h;rw[aMd] at this;simp only[aMh] at this;omega
    .intro h;rw[h];rfl
  by_cases c1:tN s=0
  · rw[aLQ c1]
    simp [hk.2 c1]
  · rw[aLU c1]
    have c1':(!decide (s.take (tN s)=[]))=true:=by simp only[aMq,aMH];exact fun h=>c1 (hk.1 h)
    cases c2:(x4 (s.drop (tN s)) [61,34]).2 with
    |false=>simp
    | true=>
      rw[aLU pH];cases c3:(DL (x4 (s.drop (tN s)) [61,34]).1).2.2 with
      |false=>simp
      | true=>
        rw[aLU pH];cases c4:yA (DL (x4 (s.drop (tN s)) [61,34]).1).1 with
        |none=>simp
        | some v=>
          dsimp only;rw[ht2 v c4,c1'];rfl
abbrev x5:=Int×pD×List sK×Bool
def G1:Nat→pD→List sK→Bool→Option (List sK×Bool)
  |0,_,_,_=>none
  | n+1,s,l,tw=>if s.dropWhile blk=[] then some (l,tw) else
    match JW (s.dropWhile blk) with
    |none=>none
    |some (a,v,rest)=>if (s.dropWhile blk).length=s.length then none else G1 n rest (l++[(a,v,())]) (tw||l.any fun x=>decide (x.1=a))
def HN (t:pD):Option x5:=
  if ((t.drop 1).take (t.length-2)).take 1=[47] then
    (if tN (((t.drop 1).take (t.length-2)).drop 1)=0∨HM ((((t.drop 1).take (t.length-2)).drop 1).drop (tN (((t.drop 1).take (t.length-2)).drop 1)))=false then none
     else some (3,(((t.drop 1).take (t.length-2)).drop 1).take (tN (((t.drop 1).take (t.length-2)).drop 1)),[],false))
  else
    (fun(u:pD×Int)=>if tN u.1=0 then none else(G1 (u.1.length+1) (u.1.drop (tN u.1)) [] false).map fun r=>(u.2,u.1.take (tN u.1),r.1,r.2))
      (if ((t.drop 1).take (t.length-2)).drop (t.length-3)=[47] then(((t.drop 1).take (t.length-2)).take (t.length-3),2) else((t.drop 1).take (t.length-2),1))
theorem aCH {α:Type}(p:α→Bool) (l:List α):(l.dropWhile p).length≤l.length:=(List.dropWhile_suffix p).length_le
theorem aIN (l:List sK) (a:pD) (v:pD) (hl:sR l):HA l (a,(v,()))=some (l.any fun x=>decide (x.1=a)):=by
  unfold sR at hl
  have h:=HH (f:=P9 l (a,(v,()))) (l:=l) (fun x=>decide (x.1=a)) (fun k=>(k:Int)) (fun i h=>by
    unfold P9;rw[aLQ (wJ h),aLQ (uK h),BZ (t:= .pair .str (.pair .str .unit)) h,aLQ (xW pG)]) (by
    unfold P9;rw[aLU (y8 _)])
  unfold HA LM;rw[h,M6];show some (decide _)=_;rw[PS]
theorem aCI {form:Int}{w:pD×pD}(hw:w.1≠[]): ∀(n:Nat) (s:pD) (l:List sK) (tw:Bool),s.length<n→s.length+l.length≤1000000000→
    ∃ r,rX (EK form w) (s,l,tw)=some r∧(match G1 n s l tw with
      |some (l',tw')=>r= .inr (form,w.1,l',tw',true)
      |none=>r= .inl ())
  |0,s,_,_,h,_=>by omega
  | n+1,s,l,tw,h,hb=>by
    have hd:=aCH blk s;have hn:(!decide (w.1=([]:pD)))=true:=by simpa using hw
    unfold G1;by_cases h0:s.dropWhile blk=[]
    · rw[aLQ h0]
      refine⟨_,vF ?_,rfl⟩;unfold EK;dsimp only;rw[UE,aLQ hn,aLQ (aMg h0)]
    · rw[aLU h0]
      obtain⟨r,hr1,hr2,hr3⟩:=aIM (s:=s.dropWhile blk) pG;cases ha:JW (s.dropWhile blk) with
      | none=>
        rw[ha] at hr3;refine⟨_,vF ?_,rfl⟩;unfold EK;dsimp only;rw[UE,aLQ hn,aLU (by simpa using h0),hr1,aLP,aLQ (by rw[hr3];rfl)]
      | some x=>
        obtain⟨a,v,rest⟩:=x;rw[ha] at hr3;dsimp only at hr3;subst hr3;dsimp only at hr2|-;by_cases hl:(s.dropWhile blk).length=s.length
        · rw[aLQ hl]
          refine⟨_,vF ?_,rfl⟩;unfold EK;dsimp only;rw[UE,aLQ hn,aLU (by simpa using h0),hr1,aLP,aLQ (by simp [hl])]
        · rw[aLU hl]
          have hc:=aIN l a v (by unfold sR;omega)
          have hst:EK form w (s,l,tw)=some (.inl (rest,l++[(a,v,())],tw||l.any fun x=>decide (x.1=a))):=by
            unfold EK;dsimp only;rw[UE,aLQ hn,aLU (by simpa using h0),hr1,aLP,aLU pJ,hc];cases tw with
            | false=>
              rw[aLQ pH,aLQ (show ((false==false)=true→(some (l.any fun x=>decide (x.1=a))).isSome=true) from fun _=>rfl),aLQ pJ];rfl
            | true=>
              rw[aLU pH,aLQ pJ];rfl
          have hrl:rest.length<s.length:=by omega
          obtain⟨r,e1,e2⟩:=aCI hw n rest (l++[(a,v,())]) (tw||l.any fun x=>decide (x.1=a)) pG pJ
          exact⟨r,by rw[vN hst];exact e1,e2⟩
theorem aIO (s:pD) (hs:s.length≤1000000000):HE s [47]=some (if s.drop (s.length-1)=[47] then(s.take (s.length-1),true) else(s,false)):=by
  have hi:qE ((s.length:Int)- ((1:Nat):Int)):=by unfold qE;omega
  unfold HE JM OZ;simp only[aLY,aMh,aMs];rw[aLQ (fun _=>hi),aLQ (fun h=>⟨by simp at h;omega,pG,aM5 _⟩),aLP];by_cases h0:s=[]
  .subst h0;rfl
  · have hp:1≤s.length:=aMn.2 h0
    have e:(s.length:Int)- ((1:Nat):Int)=((s.length-1:Nat):Int):=by omega
    rw[e,PT,a4W];have h1:decide (((1:Nat):Int)≤(s.length:Int))=true:=by simp;omega
    rw[h1,Bool.true_and];by_cases h:s.drop (s.length-1)=[47]
    .rw[aLU (by simp [h]),aLQ (by unfold qE;omega),aLQ ⟨pG,pG,pG⟩,aLQ h];rfl
    .rw[aLQ (by simp [h]),aLU h];rfl
theorem aIP {t:pD}(h2:2≤t.length) (ht:t.length≤1000000000):DH t=some (match HN t with
    |some x=>(x.1,x.2.1,x.2.2.1,x.2.2.2,true)
    |none=>(0,[],[],false,false)):=by
  have hc:sD t (1:Int) ((t.length:Int)-1)=(t.drop 1).take (t.length-2):=by
    unfold sD;rw[show ((t.length:Int)-1).toNat- (1:Int).toNat=t.length-2 by omega];rfl
  have hl:((t.drop 1).take (t.length-2)).length=t.length-2:=by rw[aMd,aL8];omega
  unfold DH;rw[aLQ (by unfold qE;omega),aLQ ⟨pG,pG,pG⟩,hc,UB,aLP];unfold HN;have e3:t.length-3=((t.drop 1).take (t.length-2)).length-1:=by rw[hl];omega
  rw[e3];generalize (t.drop 1).take (t.length-2)=s at hl|-;unfold x4;by_cases h47:s.take 1=[47]
  · rw[aLQ (show s.take ([47]:pD).length=[47] from h47),aLQ h47]
    have hw:=a5b (s:=s.drop 1) (by rw[aL8];omega);have hle:=PX (s.drop 1);show (if true=true then _ else _)=_;rw[aLQ rfl];show (DB (s.drop 1)).bind _=_;rw[hw,aLP];dsimp only;rw[aLQ (fun _=>⟨pH,pH⟩),aLQ (fun _=>by rw[aL8,aL8];omega),aCE]
    have hk:((s.drop 1).take (tN (s.drop 1))=[])↔tN (s.drop 1)=0:=by
      constructor
      · intro h
        have:=aL9 List.length h;rw[aMd] at this;simp only[aMh] at this;omega
      .intro h;rw[h];rfl
    by_cases c:tN (s.drop 1)=0∨HM ((s.drop 1).drop (tN (s.drop 1)))=false
    · rw[aLQ c,aLQ]
      rcases c with c|c
      .rw[aMg (hk.2 c)];rfl
      .rw[c];simp
    · rw[aLU c,aLU]
      simp only[aMZ,aMj,aMq,not_or];exact⟨fun h=>c (.inl (hk.1 h)),fun h=>c (.inr h)⟩
  · rw[aLU (show¬s.take ([47]:pD).length=[47] from h47),aLU h47]
    show (if false=true then _ else _)=_;rw[aLU pH,aIO s pG,aLP]
    obtain⟨u,hu1,hu2,hu3⟩: ∃u:pD×Int,t8 (σ:=(pD×Int)) (
      if (if s.drop (s.length-1)=[47] then(s.take (s.length-1),true) else(s,false)).2=true then
       some (((if s.drop (s.length-1)=[47] then(s.take (s.length-1),true) else(s,false)).1,(2:Int)))
      else
       some ((s,(1:Int)))) (fun u=>some u)=some u∧(if s.drop (s.length-1)=[47] then(s.take (s.length-1),(2:Int)) else(s,1))=u∧u.1.length≤s.length:=by
      by_cases h:s.drop (s.length-1)=[47]
      · simp only[aLQ h]
        exact⟨_,rfl,rfl,by rw[aMd];omega⟩
      · simp only[aLU h]
        exact⟨_,rfl,rfl,aMc _⟩
    rw[hu2];unfold t8 at hu1|-
    generalize (if (if s.drop (s.length-1)=[47] then(s.take (s.length-1),true) else(s,false)).2=true then
       some (((if s.drop (s.length-1)=[47] then(s.take (s.length-1),true) else(s,false)).1,(2:Int)))
      else
       some ((s,(1:Int))))=o at hu1|-
    cases o with
    |none=>cases hu1
    | some u'=>
      obtain rfl:u'=u:=aLS hu1;rw[aLP];obtain⟨v,form⟩:=u';dsimp only at hu3|-;have hw:=a5b (s:=v) pG;have hle:=PX v
      have hk:(v.take (tN v)=[])↔tN v=0:=by
        constructor
        · intro h
          have:=aL9 List.length h;rw[aMd] at this;simp only[aMh] at this;omega
        .intro h;rw[h];rfl
      rw[hw,aLP];by_cases c:tN v=0
      · rw[aLQ c]
        have hst:EK form (v.take (tN v),v.drop (tN v)) (v.drop (tN v),[],false)=some (.inr (.inl ())):=by
          unfold EK;dsimp only;rw[aLU (by simp [hk.2 c])]
        dsimp only;rw[vF hst];rfl
      · rw[aLU c]
        obtain⟨r,e1,e2⟩:=aCI (form:=form) (w:=(v.take (tN v),v.drop (tN v))) (fun h=>c (hk.1 h)) (v.length+1) (v.drop (tN v)) [] false (by rw[aL8];omega) (by rw[aL8];simp;omega);dsimp only at e1|-;rw[e1];cases ha:G1 (v.length+1) (v.drop (tN v)) [] false with
        | none=>
          rw[ha] at e2;dsimp only at e2;subst e2;rfl
        | some x=>
          obtain⟨l',tw'⟩:=x;rw[ha] at e2;dsimp only at e2;subst e2;rfl
end
noncomputable section
abbrev t6:=Int×pD×Int×Unit
abbrev TE:=Int×pD
def er (t:t6):TE:=(t.1,t.2.1)
structure vV (l:List t6):Prop where
  ne:l≠[]
  txt: ∀t∈l,t.2.1.length≤1000000000
  pos: ∀t∈l,0≤t.2.2.1∧t.2.2.1≤1000000000
  tag: ∀t∈l,t.1=2→2≤t.2.1.length
  last: ∀t,l.getLast? =some t→t.1=0∨t.1=4
  len:l.length≤1000000000
theorem vV.drop {l:List t6}(h:vV l) {k:Nat}(hk:k<l.length):vV (l.drop k):=by
  have hs:=List.drop_subset k l;refine⟨fun e=> ?_,fun t ht=>h.txt t (hs ht),fun t ht=>h.pos t (hs ht),fun t ht=>h.tag t (hs ht),fun t ht=> ?_,by rw[aL8];have:=h.len;omega⟩
  · have:=aL9 List.length e
    rw[aL8,aMh] at this;omega
  · refine h.last t ?_
    rw[List.getLast?_drop,aLU pG] at ht;exact ht
theorem vV.head {l:List t6}(h:vV l): ∃t r,l=t::r:=by
  cases l with
  |nil=>exact absurd rfl h.ne
  |cons t r=>exact⟨t,r,rfl⟩
def uD (l' l:List t6):Prop:= ∃k,k<l.length∧l'=l.drop k
theorem uD.refl {l:List t6}(h:vV l):uD l l:=⟨0,aMn.2 h.ne,rfl⟩
theorem uD.trans {a b c:List t6}(h:uD a b) (k:uD b c):uD a c:=by
  obtain⟨i,hi,rfl⟩:=h;obtain⟨j,hj,rfl⟩:=k;rw[aL8] at hi;exact⟨j+i,pG,by rw[aNN]⟩
theorem uD.ok {a b:List t6}(h:uD a b) (hb:vV b):vV a:=by
  obtain⟨i,hi,rfl⟩:=h;exact hb.drop hi
theorem uD.le {a b:List t6}(h:uD a b):a.length≤b.length:=by
  obtain⟨i,hi,rfl⟩:=h;rw[aL8];omega
theorem HO {t:t6}{r:List t6}:qW (.pair (.int .i64) (.pair .str (.pair (.int .i64) .unit))) (t::r) (0:Int)=t:=rfl
theorem EN {t:t6}{r:List t6}:0≤(0:Int)∧(0:Int)<((t::r).length:Int):=⟨aM5 _,by simp only[aLY];omega⟩
section
variable {l:List t6}(hl:vV l) (a e:Int) (c:sQ) (en:pM×Unit) (m:pK)
include hl
def w3 (l:List t6) (e:Int):List t6:=if e=0∧1<l.length then l.drop 1 else l
theorem HP:uD (w3 l e) l:=by
  unfold w3;split
  .rename_i h;exact⟨1,h.2,rfl⟩
  .exact uD.refl hl
theorem DM:wX l a e c en m=some (w3 l e):=by
  obtain⟨t,r,rfl⟩:=hl.head;have h1:=hl.txt t aL7;have h2:=hl.pos t aL7;unfold wX w3;rw[aLQ EN,aLQ EN,HO,aLQ (by unfold qE;omega)];by_cases h:e=0∧1<(t::r).length
  · have h':(decide (e=0)&&decide ((1:Int)<((t::r).length:Int)))=true:=by
      rw[aMg h.1,Bool.true_and];exact aMg pG
    have e1:=PT (l:=t::r) (k:=1);rw[aLQ h',aLQ ⟨pH,pG,aM5 _⟩,aLQ h];exact aL9 some e1
  · rw[aLU,aLU h]
    simp only[aMb,aMj];exact fun hh=>h ⟨hh.1,pG⟩
def CL (l:List t6) (a e code:Int):Int×Int:=if e=0 then((qW (.pair (.int .i64) (.pair .str (.pair (.int .i64) .unit))) l 0).2.2.1,code) else(a,e)
theorem HQ (code:Int):yJ l a e c en code m=some (CL l a e code):=by
  obtain⟨t,r,rfl⟩:=hl.head;unfold yJ CL;by_cases h:e=0
  .rw[aLQ (aMg h),aLQ EN,aLQ h]
  .rw[aLU (by simpa using h),aLU h]
omit hl in
theorem EO {code:Int}(hc:code≠0):(CL l a e code).2≠0:=by
  unfold CL;split
  .exact hc
  .assumption
omit hl in
theorem a5c {code:Int}(he:e≠0):CL l a e code=(a,e):=aLU he
def zC (l:List t6) (a e:Int) (w t m:Bool):Int×Int:=if w=true then CL l a e 3 else if t=true then CL l a e 9 else if m=true then CL l a e 6 else(a,e)
theorem B4 (w t u:Bool):wP l a e c en w t u m=some (zC l a e w t u):=by
  unfold wP zC;rw[HQ hl,HQ hl,HQ hl];cases w<;>cases t<;>cases u<;>rfl
omit hl in
theorem EP (w t u:Bool):(zC l a e w t u).2=0↔(e=0∧w=false∧t=false∧u=false):=by
  have h3:=EO (l:=l) a e (code:=3) pH;have h9:=EO (l:=l) a e (code:=9) pH;have h6:=EO (l:=l) a e (code:=6) pH;unfold zC;cases w<;>cases t<;>cases u<;>simp_all
omit hl in
theorem aCJ (he:e≠0) (w t u:Bool):zC l a e w t u=(a,e):=by
  unfold zC;rw[a5c _ _ he,a5c _ _ he,a5c _ _ he];cases w<;>cases t<;>cases u<;>rfl
def sX (t:TE):Bool:=decide (t.1=1)||(decide (t.1=3)&&HM t.2)
def qU (l:List TE):List TE:=l.dropWhile sX
def tG (l:List t6):List t6:=l.dropWhile fun t=>sX (er t)
omit hl in
theorem MC (l:List t6):(tG l).map er=qU (l.map er):=by
  unfold tG qU;rw[List.dropWhile_map];rfl
omit hl in
theorem HS: ∀{l:List t6},vV l→uD (tG l) l
  |[],h=>absurd rfl h.ne
  | [t],h=>by
    have:=h.last t rfl;unfold tG;rw[List.dropWhile_cons,aLU]
    .exact⟨0,by simp,rfl⟩
    · unfold sX er
      rcases this with h0|h0<;>simp [h0]
  | t::u::r,h=>by
    unfold tG;rw[List.dropWhile_cons];split
    · have h1:=h.drop (k:=1) pI
      obtain⟨k,hk,e⟩:=HS h1;exact⟨k+1,by simp only[aLY,aNS,aNb] at hk|-;omega,e⟩
    .exact⟨0,by simp,rfl⟩
theorem aCK (e:Int): ∀(n:Nat) (l:List t6),vV l→l.length≤n→rX (PD a e c en m) l=some (if e=0 then tG l else l)
  | 0,l,h,hn=>by
    have:=aMn.2 h.ne;omega
  | n+1,l,h,hn=>by
    obtain⟨t,r,rfl⟩:=h.head;have h1:=h.txt t aL7
    have hcond:((decide (e=(0:Int)))&&((decide (t.1=(1:Int)))||((decide (t.1=(3:Int)))&&(decide ((Lib.trimS (t.2.1) ([32,9,10,13]:pD))=([]:pD))))))=(decide (e=0)&&sX (er t)):=by
      rw[aCE];rfl
    have hst:PD a e c en m (t::r)=if (decide (e=0)&&sX (er t))=true then some (.inl (w3 (t::r) e)) else some (.inr (t::r)):=by
      unfold PD;rw[aLQ (fun _=>EN),aLQ (fun _=>EN),aLQ (fun _=>EN),aLQ (fun _=>⟨pH,pH⟩),aLQ (fun _=>by rw[HO];omega),HO,hcond,DM h];rfl
    by_cases he:e=0
    · rw[aLQ he]
      by_cases hg:sX (er t)=true
      · rw[aLQ (by simp [he,hg])] at hst
        have hr:r≠[]:=by
          rintro rfl;have:=h.last t rfl;unfold sX er at hg;rcases this with h0|h0<;>simp [h0] at hg
        have hs:w3 (t::r) e=r:=by
          unfold w3;rw[aLQ ⟨he,by have:=aMn.2 hr;simp only[aLY];omega⟩];rfl
        rw[hs] at hst;have h2:=h.drop (k:=1) (by have:=aMn.2 hr;simp only[aLY];omega);rw[vN hst,aCK e n r h2 (by simp only[aLY] at hn;omega),aLQ he];unfold tG;rw[List.dropWhile_cons,aLQ hg]
      · rw[aLU (by simp [hg])] at hst
        rw[vF hst];unfold tG;rw[List.dropWhile_cons,aLU hg]
    · rw[aLU he]
      rw[aLU (by simp [he])] at hst;exact vF hst
theorem B5:zA l a e c en m=some (if e=0 then tG l else l):=by
  unfold zA;rw[aCK hl a c en m e l.length l hl (aMc _)];rfl
def eN:x5:=(0,[],[],false)
def uV (t:TE):x5:=if t.1=2 then(HN t.2).getD eN else eN
def rI:List TE→x5
  |[]=>eN
  |t::_=>uV t
theorem B6:zP l a e c en m=some (if e=0 then rI (l.map er) else eN):=by
  obtain⟨t,r,rfl⟩:=hl.head;have h1:=hl.txt t aL7;unfold zP;rw[aLQ (fun _=>EN),HO];by_cases he:e=0
  · rw[aLQ he]
    show _=some (uV (er t));unfold uV er;by_cases h2:t.1=2
    · have h3:=hl.tag t aL7 h2
      rw[aLU (by simp [he,h2]),aLQ EN,aIP h3 h1,aLP,aLQ h2];cases HN t.2.1 with
      |none=>rfl
      |some x=>rfl
    .rw[aLQ (by simp [h2]),aLU h2];rfl
  .rw[aLU he,aLQ (by simp [he])];rfl
def uC (name:pD):List TE→Option (List TE)
  |[]=>none
  |t::r=>if (uV t).1=3∧(uV t).2.1=name then some r else none
structure IQ (l l':List t6) (e e':Int):Prop where
  suf:uD l' l
  bad:e≠0→e'≠0
omit hl in
theorem PY {t:TE}(h:(uV t).1≠0):t.1=2:=by
  unfold uV at h;by_cases h2:t.1=2
  .exact h2
  .rw[aLU h2] at h;exact absurd rfl h
omit hl in
theorem vV.more {t:t6}{r:List t6}(h:vV (t::r)) (h2:t.1=2∨t.1=3∨t.1=1):1<(t::r).length:=by
  cases r with
  | nil=>
    have:=h.last t rfl;omega
  |cons u r=>simp
theorem MD (name:pD): ∃l' a' e',AB l a e c en name m=some (l',a',e')∧IQ l l' e e'∧(e=0→match uC name (l.map er) with
    |some r=>e'=0∧l'.map er=r
    |none=>e'≠0):=by
  unfold AB;rw[B6 hl,aLP];by_cases he:e=0
  · subst he
    rw[aLQ rfl];obtain⟨t,r,rfl⟩:=hl.head;show∃l' a' e',(if ((!decide ((uV (er t)).1=(3:Int)))||(!decide ((uV (er t)).2.1=name)))=true then _ else _)=_∧_
    show∃l' a' e',_∧_∧((0:Int)=0→match (if (uV (er t)).1=3∧(uV (er t)).2.1=name then some (r.map er) else none) with|some r=>_|none=>_)
    by_cases h:(uV (er t)).1=3∧(uV (er t)).2.1=name
    · have h2:t.1=2:=PY (t:=er t) (by rw[h.1];decide)
      rw[aLU (by simp [h.1,h.2]),aLQ h];rw[DM hl,aLP]
      have hs:w3 (t::r) 0=r:=by
        unfold w3;rw[aLQ ⟨rfl,hl.more (.inl h2)⟩];rfl
      exact⟨_,_,_,rfl,⟨HP hl 0,fun h0=>absurd rfl h0⟩,fun _=>⟨rfl,by rw[hs]⟩⟩
    · rw[aLQ,aLU h,HQ hl,aLP,DM hl,aLP]
      .exact⟨_,_,_,rfl,⟨HP hl _,fun h0=>absurd rfl h0⟩,fun _=>EO _ _ pH⟩
      · simp only[aMZ,aMq,aMH]
        exact(Decidable.not_and_iff_not_or_not.1 h)
  · rw[aLU he,aLQ (by simp [eN]),HQ hl,aLP,DM hl,aLP]
    exact⟨_,_,_,rfl,⟨HP hl _,fun _=>EO _ _ pH⟩,fun h=>absurd h he⟩
def yB (x:x5):List TE→Option (pD×List TE)
  |[]=>none
  | _::r=>if x.1=2 then some ([],r) else
    match r with
    |[]=>none
    | u ::r2=>if u.1=3 then(match yA u.2 with
        |some s=>(uC x.2.1 r2).map fun q=>(s,q)
        |none=>none) else(uC x.2.1 (u::r2)).map fun q=>([],q)
theorem PZ (x:x5) (hx:e=0→∃t r,l=t::r∧t.1=2): ∃s l' a' e',AC l a e c en (x.1,(x.2.1,(x.2.2.1,(x.2.2.2,())))) m=some (s,l',a',e')∧IQ l l' e e'∧s.length≤5000000000∧(e=0→match yB x (l.map er) with
    |some (s',r)=>e'=0∧l'.map er=r∧s=s'∧l'.length<l.length
    |none=>e'≠0):=by
  unfold AC;rw[DM hl,aLP];have hs1:=HP hl e;have hl1:=hs1.ok hl;by_cases h2:x.1=2
  · rw[aLQ (aMg h2)]
    refine⟨_,_,_,_,rfl,⟨hs1,id⟩,by simp,fun he=> ?_⟩;obtain⟨t,r,rfl,ht⟩:=hx he
    have hs:w3 (t::r) e=r:=by
      unfold w3;rw[aLQ ⟨he,hl.more (.inl ht)⟩];rfl
    have hc:yB x ((t::r).map er)=some ([],r.map er):=by
      show (if x.1=2 then some (([]:pD),r.map er) else _)=_;rw[aLQ h2]
    rw[hc];exact⟨he,by rw[hs],rfl,by rw[hs];simp⟩
  · rw[aLU (by simpa using h2)]
    obtain⟨u,r2,hu⟩:=hl1.head;rw[hu] at hs1 hl1|-;rw[aLQ EN,HO]
    have hcl:e=0→∃t,l=t::u::r2:=fun he=>by
      obtain⟨t,r,rfl,ht⟩:=hx he
      have hs:w3 (t::r) e=r:=by
        unfold w3;rw[aLQ ⟨he,hl.more (.inl ht)⟩];rfl
      rw[hs] at hu;exact⟨t,by rw[hu]⟩
    by_cases h3:u.1=3
    · have h1:=hl1.txt u aL7
      obtain⟨s,e1,e2⟩:=aCD h1
      have hsl:s.length≤5000000000:=by
        obtain⟨r,hr,hm⟩:=aCC (s:=u.2.1) (by unfold sR;omega);unfold EI at e1;rw[hr,aLP] at e1;split at e1
        · have e3:=aL9 Prod.fst (aLS e1)
          dsimp only at e3;rw[←e3];cases hun:zS u.2.1.length u.2.1 with
          |none=>rw[hun] at hm;rw[hm.1];simp
          | some y=>
            rw[hun] at hm;dsimp only at hm;rw[hm];have:=UD _ _ _ (by unfold sR;omega) hun;dsimp only;omega
        .cases e1
      rw[aLQ (aMg h3),aLQ EN,e1,aLP]
      obtain⟨q,hq1,hq2,hq3⟩: ∃q:Int×Int,t8 (σ:=(Int×Int)) (if (!(yA u.2.1).isSome)=true then
        (yJ (u::r2) a e (c.1,(c.2.1,(c.2.2.1,(c.2.2.2.1,())))) (en.1,()) (3:Int) m).bind fun O=>some ((O.1,O.2))
       else some ((a,e))) (fun q=>some q)=some q∧(e≠0→q.2≠0)∧(e=0→if (yA u.2.1).isSome=true then q.2=0 else q.2≠0):=by
        cases(yA u.2.1).isSome with
        |true=>exact⟨_,rfl,id,id⟩
        | false=>
          rw[aLQ pH,HQ hl1];refine⟨_,rfl,fun _=>EO _ _ pH,fun _=> ?_⟩;rw[aLU pH];exact EO _ _ pH
      unfold t8 at hq1|-
      generalize (if (!(yA u.2.1).isSome)=true then
        (yJ (u::r2) a e (c.1,(c.2.1,(c.2.2.1,(c.2.2.2.1,())))) (en.1,()) (3:Int) m).bind fun O=>some ((O.1,O.2))
       else some ((a,e)))=o at hq1|-
      cases o with
      |none=>cases hq1
      |some q'=>
      obtain rfl:q'=q:=aLS hq1;clear hq1;obtain⟨a1,e3⟩:=q';dsimp only at hq2 hq3;rw[aLP];dsimp only;rw[DM hl1,aLP];have hs2:=HP hl1 e3;have hl2:=hs2.ok hl1;obtain⟨l3,a3,e4,h4,p4,m4⟩:=MD hl2 a1 e3 (c.1,(c.2.1,(c.2.2.1,(c.2.2.2.1,())))) (en.1,()) m x.2.1;rw[h4,aLP];refine⟨_,_,_,_,rfl,⟨(p4.suf.trans hs2).trans hs1,fun he=>p4.bad (hq2 he)⟩,hsl,fun he=> ?_⟩;obtain⟨t,ht⟩:=hcl he;rw[ht]
      show match (if x.1=2 then some ([],(u::r2).map er) else if u.1=3 then(match yA u.2.1 with
        |some s=>(uC x.2.1 (r2.map er)).map fun q=>(s,q)
        |none=>none) else(uC x.2.1 ((u::r2).map er)).map fun q=>([],q)) with|some (s',q)=>_|none=>_
      rw[aLU h2,aLQ h3];have hq3':=hq3 he;cases htx:yA u.2.1 with
      | none=>
        rw[htx] at hq3';exact p4.bad (by simpa using hq3')
      | some y=>
        rw[htx] at hq3';have he3:e3=0:=by simpa using hq3'
        have hst:w3 (u::r2) e3=r2:=by
          unfold w3;rw[aLQ ⟨he3,hl1.more (.inr (.inl h3))⟩];rfl
        have m4':=m4 he3;rw[hst] at m4' p4;dsimp only;cases hnd:uC x.2.1 (r2.map er) with
        |none=>rw[hnd] at m4';exact m4'
        | some q=>
          rw[hnd] at m4';exact⟨m4'.1,m4'.2,e2 y htx,by have:=p4.suf.le;simp only[aLY];omega⟩
    · rw[aLU (by simpa using h3)]
      obtain⟨l3,a3,e4,h4,p4,m4⟩:=MD hl1 a e (c.1,(c.2.1,(c.2.2.1,(c.2.2.2.1,())))) (en.1,()) m x.2.1;rw[h4,aLP];refine⟨_,_,_,_,rfl,⟨p4.suf.trans hs1,p4.bad⟩,by simp,fun he=> ?_⟩;obtain⟨t,ht⟩:=hcl he;rw[ht]
      show match (if x.1=2 then some ([],(u::r2).map er) else if u.1=3 then(match yA u.2.1 with
        |some s=>(uC x.2.1 (r2.map er)).map fun q=>(s,q)
        |none=>none) else(uC x.2.1 ((u::r2).map er)).map fun q=>([],q)) with|some (s',q)=>_|none=>_
      rw[aLU h2,aLU h3];have m4':=m4 he;cases hnd:uC x.2.1 ((u::r2).map er) with
      |none=>rw[hnd] at m4';exact m4'
      | some q=>
        rw[hnd] at m4';exact⟨m4'.1,m4'.2,rfl,by have:=p4.suf.le;simp only[aLY] at this|-;omega⟩
end
end
noncomputable section
theorem aCL {σ ρ:Type}{f:σ->Option (σ⊕ρ)}{x:σ}(h:f x=none):rX f x=none:=by rw[FZ,h];rfl
theorem aCM (a b:pD) (y:pD): ∀l:List (pD×pD),vB .str .str (tO .str .str a y l) b=(decide (a=b)||vB .str .str l b)
 |[]=>by
  show (if decide (b=a)=true then true else false)=(decide (a=b)||false)
  by_cases h:b=a
  .simp [h]
  .have: ¬a=b:=fun e=>h e.symm;simp [h,this]
 |(x,z)::r=>by
  have ih:=aCM a b y r;show vB .str .str (if decide (a=x)=true then(a,y)::r else(x,z)::tO .str .str a y r) b=(decide (a=b)||(if decide (b=x)=true then true else vB .str .str r b))
  by_cases h:a=x
  .subst h;rw[aLQ pI];show (if decide (b=a)=true then true else vB .str .str r b)=_;by_cases hb:b=a
   .simp [hb]
   .have: ¬a=b:=fun e=>hb e.symm;simp [hb,this]
  .rw[aLU (by simpa using h)];show (if decide (b=x)=true then true else vB .str .str (tO .str .str a y r) b)=_;rw[ih];by_cases hb:b=x
   .simp [hb]
   .simp [hb]
def JX (m:List (pD×pD)) (a:sK):List (pD×pD):=tO .str .str a.1 a.2.1 m
def EQ (l:List sK):List (pD×pD):=l.foldl JX []
def sH (l:List sK) (n:pD):pD:=l.foldl (fun v a=>if n=a.1 then a.2.1 else v) []
theorem aCN (n:pD): ∀(l:List sK) (m:List (pD×pD)),rS .str .str (l.foldl JX m) n=l.foldl (fun v a=>if n=a.1 then a.2.1 else v) (rS .str .str m n)
 |[],_=>rfl
 |a::l,m=>by
  rw[List.foldl_cons,List.foldl_cons,aCN n l];unfold JX;rw[JV]
theorem Q0 (l:List sK) (n:pD):rS .str .str (EQ l) n=sH l n:=aCN n l []
theorem aCO (n:pD): ∀(l:List sK) (m:List (pD×pD)),vB .str .str (l.foldl JX m) n=(vB .str .str m n||l.any fun a=>decide (a.1=n))
 |[],m=>by simp
 |a::l,m=>by
  rw[List.foldl_cons,aCO n l,List.any_cons];unfold JX;rw[aCM];cases decide (a.1=n)<;>cases vB .str .str m n<;>rfl
theorem aCP (l:List sK) (n:pD):vB .str .str (EQ l) n=l.any fun a=>decide (a.1=n):=aCO n l []
theorem aCQ {l:List sK}{n:pD}: ∀{l:List sK}{v:pD},(l.any fun a=>decide (a.1=n))=true->∃a∈l,a.1=n/\l.foldl (fun v a=>if n=a.1 then a.2.1 else v) v=a.2.1
 |[],_,h=>by cases h
 |a::l,v,h=>by
  by_cases hl:(l.any fun a=>decide (a.1=n))=true
  .obtain⟨b,h1,h2,h3⟩:=aCQ (l:=l) (v:=if n=a.1 then a.2.1 else v) hl;exact⟨b,aL5 _ h1,h2,h3⟩
  .have ha:a.1=n:=by
    rw[List.any_cons,aMZ] at h;rcases h with h|h
    .exact aMv h
    .exact absurd h hl
   have hno: ∀(l:List sK) (v:pD),¬(l.any fun a=>decide (a.1=n))=true->l.foldl (fun v a=>if n=a.1 then a.2.1 else v) v=v:=by
    intro l
    induction l with
    |nil=>intros;rfl
    |cons b l ih=>
     intro v hh;rw[List.any_cons,aMZ,not_or] at hh;rw[List.foldl_cons,aLU (fun e=>hh.1 (aMg e.symm))];exact ih v hh.2
   refine⟨a,aL7,ha,?_⟩;rw[List.foldl_cons,aLQ ha.symm];exact hno l _ hl
theorem a5d {ρ:Type}{f:(Int×List (pD×pD))->Option ((Int×List (pD×pD))⊕((List (pD×pD))⊕ρ))}{l:List sK}(p:sK->Bool) (r:Option (((List (pD×pD))⊕ρ)))
  (hf: ∀(i:Nat) (h:i<l.length) m,f ((i:Int),m)=if p l[i]=true then some (.inl ((i:Int)+1,JX m l[i])) else r.map .inr)
  (he: ∀m,f ((l.length:Int),m)=some (.inr (.inl m))): ∀(n i:Nat) m,i+n=l.length->rX f ((i:Int),m)=if (l.drop i).all p=true then some (.inl ((l.drop i).foldl JX m)) else r
 |0,i,m,hi=>by
  obtain rfl:i=l.length:=by omega
  rw[aMU,vF (he m)];rfl
 |n+1,i,m,hi=>by
  have h:i<l.length:=by omega
  rw[aMw h,List.all_cons,List.foldl_cons];have hs:=hf i h m;cases hp:p l[i] with
  |true=>
   rw[hp,aLQ rfl] at hs;rw[vN hs,Bool.true_and];exact a5d p r hf he n (i+1) _ pG
  |false=>
   rw[hp,aLU pH] at hs;rw[Bool.false_and,aLU pH];cases r with
   |none=>exact aCL hs
   |some x=>exact vF hs
def yO (l:List sK) (N F:pE):Bool:=(l.all fun a=>F.any fun x=>decide (x=a.1))&&(N.all fun n=>l.any fun a=>decide (a.1=n))
theorem aCR {α:Type}{p:α->Bool}{l:List α}:(l.any fun x=> !p x)= !(l.all p):=by
 rw[List.not_all_eq_any_not]
theorem JY {l:List sK}{i:Nat}(h:i<l.length):qW (.pair .str (.pair .str .unit)) l (i:Int)=l[i]:=BZ (t:= .pair .str (.pair .str .unit)) h
theorem ME (x:x5) (names opt:pD) (hx:x.2.2.1.length<=1000000000) (h1:names.length<=100) (h2:opt.length<=100) (h3:(names.all fun b=>decide (b.toNat<128))=true) (h4:(opt.all fun b=>decide (b.toNat<128))=true)
  (h5:(Lib.fields ((names++[32])++opt)).length<=1000) (h6:(Lib.fields names).length<=1000):
  vU (x.1,(x.2.1,(x.2.2.1,(x.2.2.2,())))) names opt=(if yO x.2.2.1 (Lib.fields names) (Lib.fields ((names++[32])++opt))=true then some (EQ x.2.2.1) else none)/\
  (yO x.2.2.1 (Lib.fields names) (Lib.fields ((names++[32])++opt))=false->CF (x.1,(x.2.1,(x.2.2.1,(x.2.2.2,())))) names opt=some ()):=by
 obtain⟨fm,nm,l,tw⟩:=x;dsimp only at hx|-;have c1:((names++([32]:pD)).length:Int)<=9223372036854775807:=by simp;omega
 have c2:(((names++([32]:pD))++opt).length:Int)<=9223372036854775807:=by simp;omega
 have c3:(List.all ((names++([32]:pD))++opt) fun b=>decide (b.toNat<128))=true/\List.length ((names++([32]:pD))++opt)<4294967281:=by
  refine⟨?_,by simp;omega⟩;rw[List.all_append,List.all_append,h3,h4];rfl
 have c4:(List.all names fun b=>decide (b.toNat<128))=true/\List.length names<4294967281:=⟨h3,pG⟩;have hcon: ∀a,DA (Lib.fields ((names++([32]:pD))++opt)) a=some ((Lib.fields ((names++([32]:pD))++opt)).any fun y=>decide (y=a)):=fun a=>aCa _ a (by unfold sR;omega);have A:=a5d (f:=LO (fm,(nm,(l,(tw,())))) names opt) (l:=l) (fun a=>(Lib.fields ((names++[32])++opt)).any fun y=>decide (y=a.1)) none (fun i h m=>by
  unfold LO;dsimp only;rw[aLQ (wJ h),aLQ (uK h),aLQ c1,aLQ c2,aLQ c3,JY h,hcon,aLP,aLQ (xW pG)];cases(Lib.fields ((names++[32])++opt)).any fun y=>decide (y=l[i].1)<;>rfl) (fun m=>by
  unfold LO;dsimp only;rw[aLU (y8 _)]) l.length 0 [] pG
 have B:=a5d (f:=LQ (fm,(nm,(l,(tw,())))) names opt) (l:=l) (fun a=>(Lib.fields ((names++[32])++opt)).any fun y=>decide (y=a.1)) (some (.inr ())) (fun i h m=>by
  unfold LQ;dsimp only;rw[aLQ (wJ h),aLQ (uK h),aLQ c1,aLQ c2,aLQ c3,JY h,hcon,aLP,aLQ (xW pG)];cases(Lib.fields ((names++[32])++opt)).any fun y=>decide (y=l[i].1)<;>rfl) (fun m=>by
  unfold LQ;dsimp only;rw[aLU (y8 _)]) l.length 0 [] pG
 rw[aNb] at A B;have A':rX (LO (fm,(nm,(l,(tw,())))) names opt) ((0:Int),[])=_:=A;have B':rX (LQ (fm,(nm,(l,(tw,())))) names opt) ((0:Int),[])=_:=B;have C: ∀m,rX (HB names m) (0:Int)=if (Lib.fields names).all (fun n=>vB .str .str m n)=true then some (.inl ()) else none:=by
  intro m;have go: ∀(n i:Nat),i+n=(Lib.fields names).length->rX (HB names m) (i:Int)=if ((Lib.fields names).drop i).all (fun n=>vB .str .str m n)=true then some (.inl ()) else none:=by
   intro n
   induction n with
   |zero=>
    intro i hi;obtain rfl:i=(Lib.fields names).length:=by omega
    rw[aMU];refine vF ?_;unfold HB;rw[aLU (y8 _)]
   |succ n ih=>
    intro i hi;have h:i<(Lib.fields names).length:=by omega
    have hs:HB names m (i:Int)=if vB .str .str m (Lib.fields names)[i]=true then some (.inl ((i+1:Nat):Int)) else none:=by
     unfold HB;rw[aLQ (wJ h),aLQ (uK h),BZ (t:= .str) h,aLQ (xW pG)];cases vB .str .str m (Lib.fields names)[i]<;>rfl
    rw[aMw h,List.all_cons];cases hm:vB .str .str m (Lib.fields names)[i] with
    |true=>
     rw[hm,aLQ rfl] at hs;rw[vN hs,Bool.true_and];exact ih (i+1) pG
    |false=>
     rw[hm,aLU pH] at hs;rw[aCL hs];rfl
  have h0:=go (Lib.fields names).length 0 pG;rw[aNb] at h0;exact h0
 have D: ∀m,(Lib.fields names).all (fun n=>vB .str .str m n)=false->rX (JI names m) (0:Int)=some (.inr ()):=by
  intro m hm;have h:=HH (f:=JI names m) (l:=Lib.fields names) (fun n=> !vB .str .str m n) (fun _=>()) (fun i h=>by
   unfold JI;rw[aLQ (wJ h),aLQ (uK h),BZ (t:= .str) h,aLQ (xW pG)]) (by
   unfold JI;rw[aLU (y8 _)])
  rw[h,U4,aLQ];rw[aCR,hm];rfl
 unfold yO;constructor
 .unfold vU;rw[A'];cases hp:l.all fun a=>(Lib.fields ((names++[32])++opt)).any fun y=>decide (y=a.1) with
  |false=>rfl
  |true=>
   rw[aLQ rfl];show (if _ then uT (rX (HB names (EQ l)) (0:Int)) (fun _=>some (EQ l)) else none)=_;rw[aLQ c4,C];have e:(Lib.fields names).all (fun n=>vB .str .str (EQ l) n)=(Lib.fields names).all fun n=>l.any fun a=>decide (a.1=n):=by
    congr 1;funext n;exact aCP l n
   rw[e,Bool.true_and];cases(Lib.fields names).all fun n=>l.any fun a=>decide (a.1=n)<;>rfl
 .intro hf;unfold CF;rw[B'];cases hp:l.all fun a=>(Lib.fields ((names++[32])++opt)).any fun y=>decide (y=a.1) with
  |false=>rfl
  |true=>
   rw[aLQ rfl];show (if _ then uT (rX (JI names (EQ l)) (0:Int)) (fun _=>none) else none)=_;rw[aLQ c4,D]
   .rfl
   .rw[hp,Bool.true_and] at hf;have e:(Lib.fields names).all (fun n=>vB .str .str (EQ l) n)=(Lib.fields names).all fun n=>l.any fun a=>decide (a.1=n):=by
     congr 1;funext n;exact aCP l n
    rw[e];exact hf
def tT (s:pD):pE:=tZ (tM s [32])
theorem aCS (s:pD):0<(tM s [32]).length/\(tM s [32]).length<=s.length+1:=by
 have h1:=Lib.splitB_all ⟨List.toArray ([32]:pD)⟩ pH 0 _ ⟨List.toArray s⟩ rfl;have h2:=Lib.countB_le ⟨List.toArray ([32]:pD)⟩ pH (List.length s) ⟨List.toArray s⟩ (aMc _);have h3:(⟨List.toArray s⟩:ByteArray).size=s.length:=rfl;rw[h3] at h2;unfold tM;rw[aMM,h1];exact⟨pG,pG⟩
theorem aCT (l:pE):(tZ l).length<=l.length:=List.length_filter_le _ _
theorem a5e {s:pD}(hs:s.length<=1000000000):FP s=some ((tT s).all wF):=by
 have hl:=aCS s;have hn:=aCT (tM s [32]);have hf:(tT s).length<=1000000001:=by unfold tT;omega
 have h:=HH (f:=P6 (tT s)) (l:=tT s) (fun x=> !wF x) (fun k=>(k:Int)) (fun i h=>by
  unfold P6 LH;rw[aLQ (wJ h),aLQ (uK h),BZ (t:= .str) h,a4V,aLP,aLP,aLQ (xW pG)]) (by
  unfold P6;rw[aLU (y8 _)])
 unfold FP;rw[aLQ ⟨pH,pG⟩,aLQ ⟨hl.1,pG⟩];show (JH (tT s)).bind _=_;unfold JH LL;rw[h,M6];show some (!decide _)=_;rw[PS,aCR,Bool.not_not]
abbrev uE:pD:=[105,100]
abbrev zD:pD:=[115,116,97,116,101]
abbrev uR:pD:=[102,108,97,103,115]
abbrev x6:pD:=[110,97,109,101]
abbrev yP:pD:=[116,97,103]
abbrev MF:pD:=[99,111,109,109,101,110,116]
abbrev MG:pD:=[102,105,101,108,100]
abbrev zT:pD:=[115,111,117,114,99,101]
abbrev G2:pD:=[116,97,114,103,101,116]
abbrev G3:pD:=[101,110,116,114,121]
abbrev yC:pD:=[101,110,116,114,105,101,115]
abbrev zU:pD:=[99,97,116,97,108,111,103]
def CM (a:sK):Bool:=if a.1=uE then(decide (a.2.1=[])||decide (200<(a.2.1.length:Int))) else if a.1=zD then !decide (0<=C0 a.2.1) else !((tT a.2.1).all wF)
theorem aIQ {a:sK}(ha:a.2.1.length<=1000000000):JL a=some (CM a):=by
 unfold JL CM;by_cases h1:a.1=uE
 .rw[aLQ (aMg h1),aLQ h1]
 .rw[aLU (by simpa using h1),aLU h1];by_cases h2:a.1=zD
  .have h:=aCa HI a.2.1 (by unfold sR;decide);rw[aLQ (aMg h2),aLQ h2];show (DA HI a.2.1).bind _=_;rw[h,aLP,<-PS];rfl
  .rw[aLU (by simpa using h2),aLU h2,a5e ha];rfl
theorem aIR {l:List sK}(hl:l.length<=1000000000) (ha: ∀a∈l,a.2.1.length<=1000000000):CI l=some (l.any CM):=by
 have h:=HH (f:=PH l) (l:=l) CM (fun k=>(k:Int)) (fun i h=>by
  unfold PH;rw[aLQ (wJ h),aLQ (uK h),JY h,aIQ (ha _ (aM4 h)),aLP,aLQ (xW pG)]) (by
  unfold PH;rw[aLU (y8 _)])
 unfold CI LV;rw[h,M6];show some (decide _)=_;rw[PS]
theorem aIS (s:pD):AS HI s=some (C0 s):=by
 rw[aB9 HI s (by unfold sR;decide)];unfold C0;have:(fun x:pD=>decide (s=x))=fun x=>decide (x=s):=by
  funext x;exact aNQ.2 ⟨Eq.symm,Eq.symm⟩
 rw[this]
theorem a5f {f:Bool×Int->Option ((Bool×Int)⊕Bool)}{l:List sK}(p:sK->Bool) (hf: ∀(i:Nat) (h:i<l.length) g,f (g,(i:Int))=some (.inl (g&&p l[i],(i:Int)+1))) (he: ∀g,f (g,(l.length:Int))=some (.inr g)):
  ∀(n i:Nat) g,i+n=l.length->rX f (g,(i:Int))=some (g&&(l.drop i).all p)
 |0,i,g,hi=>by
  obtain rfl:i=l.length:=by omega
  rw[aMU,vF (he g)];simp
 |n+1,i,g,hi=>by
  have h:i<l.length:=by omega
  rw[vN (hf i h g),aMw h,List.all_cons,<-Bool.and_assoc];exact a5f p hf he n (i+1) _ pG
end
noncomputable section
theorem MH:Lib.fields (([]++[32])++([]:pD))=[]:=by kernel_rfl
theorem MI:Lib.fields ([]:pD)=[]:=by kernel_rfl
theorem a5g (l:List sK):yO l [] []=decide (l=[]):=by
 unfold yO;cases l with
 |nil=>rfl
 |cons a l=>simp
theorem aCU:Lib.fields ((x6++[32])++([]:pD))=[x6]:=by kernel_rfl
theorem aCV:Lib.fields x6=[x6]:=by kernel_rfl
def AD (x:x5) (cms:pE) (L:List TE):Option (pE×List TE):=
 if x.2.2.1=[]/\x.2.2.2=false/\cms.length≠20 then(yB x L).map fun r=>(cms++[r.1],r.2) else none
theorem UF (n:Nat):decide ((n:Int)=20)=decide (n=20):=aNQ.2 pG
section
variable {l:List t6}(hl:vV l) (a e:Int) (c:sQ) (en:pM×Unit) (m:pK)
include hl
theorem aCW (x:x5) (b:rW) (hx:e=0->∃t r,l=t::r/\t.1=2) (ha:x.2.2.1.length<=1000000000) (hb:b.2.2.2.1.length<=1000):
  ∃l' a' e' cs,BW l a e c en (x.1,(x.2.1,(x.2.2.1,(x.2.2.2,())))) b m=some (l',a',e',cs)/\IQ l l' e e'/\(e=0->match AD x b.2.2.2.1 (l.map er) with
   |some (cs',r)=>e'=0/\l'.map er=r/\cs=cs'/\l'.length<l.length
   |none=>e'≠0):=by
 obtain⟨v1,v2⟩:=ME x [] [] ha pH pH pH pH (by rw[MH];decide) (by rw[MI];decide);rw[MH,MI,a5g] at v1 v2;unfold BW;by_cases h:x.2.2.1=[]
 .rw[aMg h,aLQ rfl] at v1;rw[v1,aLQ pV,aLP,B4 hl,aLP];have hck:=EP (l:=l) a e (!true) x.2.2.2 (decide ((b.2.2.2.1.length:Int)=20));have hid:=fun he=>aCJ (l:=l) a e he (!true) x.2.2.2 (decide ((b.2.2.2.1.length:Int)=20));dsimp only;generalize zC l a e (!true) x.2.2.2 (decide ((b.2.2.2.1.length:Int)=20))=q at hck hid|-;obtain⟨a1,e1⟩:=q;dsimp only at hck hid|-;obtain⟨s,l2,a2,e2,h2,p2,s2,m2⟩:=PZ hl a1 e1 (c.1,(c.2.1,(c.2.2.1,(c.2.2.2.1,())))) (en.1,()) m x (fun he=>hx (hck.1 he).1);rw[h2,aLP,aLQ pJ];refine⟨_,_,_,_,rfl,⟨p2.suf,fun he=>p2.bad (by rw[show e1=e from aL9 Prod.snd (hid he)];exact he)⟩,fun he=> ?_⟩;unfold AD;by_cases hc:x.2.2.1=[]/\x.2.2.2=false/\b.2.2.2.1.length≠20
  .rw[aLQ hc];have he1:e1=0:=hck.2 ⟨he,rfl,hc.2.1,by rw[UF];exact decide_eq_false hc.2.2⟩;have m2':=m2 he1;cases hct:yB x (l.map er) with
   |none=>rw[hct] at m2';exact m2'
   |some r=>
    rw[hct] at m2';exact⟨m2'.1,m2'.2.1,by rw[m2'.2.2.1],m2'.2.2.2⟩
  .rw[aLU hc];refine p2.bad fun he1=>hc ⟨h,(hck.1 he1).2.2.1,?_⟩;have:=(hck.1 he1).2.2.2;rw[UF] at this;exact of_decide_eq_false this
 .rw[decide_eq_false h,aLU pH] at v1;rw[v1,aLU pH,v2 (decide_eq_false h),aLP,B4 hl,aLP];have hck:=EP (l:=l) a e (!false) x.2.2.2 (decide ((b.2.2.2.1.length:Int)=20));dsimp only;generalize zC l a e (!false) x.2.2.2 (decide ((b.2.2.2.1.length:Int)=20))=q at hck|-;obtain⟨a1,e1⟩:=q;dsimp only at hck|-;have he1:e1≠0:=fun h0=>by have:=(hck.1 h0).2.1;cases this
  obtain⟨s,l2,a2,e2,h2,p2,s2,m2⟩:=PZ hl a1 e1 (c.1,(c.2.1,(c.2.2.1,(c.2.2.2.1,())))) (en.1,()) m x (fun h0=>absurd h0 he1);rw[h2,aLP,aLQ pJ];refine⟨_,_,_,_,rfl,⟨p2.suf,fun _=>p2.bad he1⟩,fun he=> ?_⟩;unfold AD;rw[aLU (fun hh=>h hh.1)];exact p2.bad he1
omit hl in
theorem aCX {x:xT}(hx:x.2.2.1.length<=1000000000) {f:Bool×Int->Option ((Bool×Int)⊕Bool)}(hf:f=PM x\/f=PN x):
  rX f (true,(0:Int))=some (x.2.2.1.all fun a=>wF a.2.1):=by
 have h:=a5f (f:=f) (l:=x.2.2.1) (fun a=>wF a.2.1) (fun i h g=>by
  rcases hf with rfl|rfl
  .unfold PM;dsimp only;rw[aLQ (wJ h),aLQ (uK h),JY h,a4V,aLQ (by exact fun _=>rfl),aLQ (xW pG)];rfl
  .unfold PN;dsimp only;rw[aLQ (wJ h),aLQ (uK h),JY h,a4V,aLQ (by exact fun _=>rfl),aLQ (xW pG)];rfl) (fun g=>by
  rcases hf with rfl|rfl
  .unfold PM;dsimp only;rw[aLU (y8 _)]
  .unfold PN;dsimp only;rw[aLU (y8 _)]) x.2.2.1.length 0 true pG
 rw[aNb,Bool.true_and] at h;exact h
def AE (x:x5) (fds:List sK) (L:List TE):Option (List sK×List TE):=
 if yO x.2.2.1 [x6] [x6]=true/\(x.2.2.1.all fun a=>wF a.2.1)=true/\x.2.2.2=false/\(fds.any fun f=>decide (f.1=sH x.2.2.1 x6))=false/\fds.length≠20 then(yB x L).map fun r=>(JU fds (sH x.2.2.1 x6) r.1,r.2) else none
theorem aCY (x:x5) (b:rW) (hx:e=0->∃t r,l=t::r/\t.1=2) (ha:x.2.2.1.length<=1000000000) (hb:b.2.2.2.2.2.2.1.length<=1000):
  ∃l' a' e' fs,BX l a e c en (x.1,(x.2.1,(x.2.2.1,(x.2.2.2,())))) b m=some (l',a',e',fs)/\IQ l l' e e'/\(e=0->match AE x b.2.2.2.2.2.2.1 (l.map er) with
   |some (fs',r)=>e'=0/\l'.map er=r/\fs=fs'/\l'.length<l.length
   |none=>e'≠0):=by
 have hfit:sR b.2.2.2.2.2.2.1:=by unfold sR;omega
 obtain⟨v1,v2⟩:=ME x x6 [] ha pH pH pH pH (by rw[aCU];decide) (by rw[aCV];decide);rw[aCU,aCV] at v1 v2;unfold BX;by_cases h:yO x.2.2.1 [x6] [x6]=true
 .rw[h,aLQ rfl] at v1;rw[v1,aLQ pV,aLP,Q0,aCd _ _ hfit,aLP,aCX (x:=(x.1,(x.2.1,(x.2.2.1,(x.2.2.2,()))))) ha (.inl rfl)];unfold t8;rw[aLP,B4 hl,aLP,aH7];dsimp only;have hck:=EP (l:=l) a e ((!true)||(!(x.2.2.1.all fun a=>wF a.2.1))) (x.2.2.2||(b.2.2.2.2.2.2.1.any fun f=>decide (f.1=sH x.2.2.1 x6))) (decide ((b.2.2.2.2.2.2.1.length:Int)=20))
  have hid:=fun he=>aCJ (l:=l) a e he ((!true)||(!(x.2.2.1.all fun a=>wF a.2.1))) (x.2.2.2||(b.2.2.2.2.2.2.1.any fun f=>decide (f.1=sH x.2.2.1 x6))) (decide ((b.2.2.2.2.2.2.1.length:Int)=20))
  generalize zC l a e ((!true)||(!(x.2.2.1.all fun a=>wF a.2.1))) (x.2.2.2||(b.2.2.2.2.2.2.1.any fun f=>decide (f.1=sH x.2.2.1 x6))) (decide ((b.2.2.2.2.2.2.1.length:Int)=20))=q at hck hid|-
  obtain⟨a1,e1⟩:=q;dsimp only at hck hid|-;obtain⟨s,l2,a2,e2,h2,p2,s2,m2⟩:=PZ hl a1 e1 (c.1,(c.2.1,(c.2.2.1,(c.2.2.2.1,())))) (en.1,()) m x (fun he=>hx (hck.1 he).1);rw[h2,aLP,aCf _ _ _ hfit,aLP];refine⟨_,_,_,_,rfl,⟨p2.suf,fun he=>p2.bad (by rw[show e1=e from aL9 Prod.snd (hid he)];exact he)⟩,fun he=> ?_⟩;unfold AE;by_cases hc:yO x.2.2.1 [x6] [x6]=true/\(x.2.2.1.all fun a=>wF a.2.1)=true/\x.2.2.2=false/\(b.2.2.2.2.2.2.1.any fun f=>decide (f.1=sH x.2.2.1 x6))=false/\b.2.2.2.2.2.2.1.length≠20
  .rw[aLQ hc];have he1:e1=0:=hck.2 ⟨he,by rw[hc.2.1];rfl,by rw[hc.2.2.1,hc.2.2.2.1];rfl,by rw[UF];exact decide_eq_false hc.2.2.2.2⟩;have m2':=m2 he1;cases hct:yB x (l.map er) with
   |none=>rw[hct] at m2';exact m2'
   |some r=>
    rw[hct] at m2';exact⟨m2'.1,m2'.2.1,by rw[m2'.2.2.1],m2'.2.2.2⟩
  .rw[aLU hc];refine p2.bad fun he1=>hc ?_;obtain⟨_,k1,k2,k3⟩:=hck.1 he1;rw[UF] at k3;simp only[aMz,aM1] at k1 k2;exact⟨h,k1.2,k2.1,k2.2,of_decide_eq_false k3⟩
 .have h':yO x.2.2.1 [x6] [x6]=false:=by simpa using h
  rw[h',aLU pH] at v1;rw[v1,aLU pH,v2 h',aLP,aCd _ _ hfit,aLP,aCX (x:=(x.1,(x.2.1,(x.2.2.1,(x.2.2.2,()))))) ha (.inr rfl)];unfold t8;rw[aLP,B4 hl,aLP];dsimp only;have hck:=EP (l:=l) a e ((!false)||(!(x.2.2.1.all fun a=>wF a.2.1))) (x.2.2.2||(M7 b.2.2.2.2.2.2.1 []).2) (decide ((b.2.2.2.2.2.2.1.length:Int)=20))
  generalize zC l a e ((!false)||(!(x.2.2.1.all fun a=>wF a.2.1))) (x.2.2.2||(M7 b.2.2.2.2.2.2.1 []).2) (decide ((b.2.2.2.2.2.2.1.length:Int)=20))=q at hck|-
  obtain⟨a1,e1⟩:=q;dsimp only at hck|-;have he1:e1≠0:=fun h0=>by have:=(hck.1 h0).2.1;cases this
  obtain⟨s,l2,a2,e2,h2,p2,s2,m2⟩:=PZ hl a1 e1 (c.1,(c.2.1,(c.2.2.1,(c.2.2.2.1,())))) (en.1,()) m x (fun h0=>absurd h0 he1);rw[h2,aLP,aCf _ _ _ hfit,aLP];refine⟨_,_,_,_,rfl,⟨p2.suf,fun _=>p2.bad he1⟩,fun he=> ?_⟩;unfold AE;rw[aLU (fun hh=>h hh.1)];exact p2.bad he1
end
abbrev HT:=pD×pD×pE×List sK×Bool×Bool
def vQ:Nat->HT->List TE->Option (HT×List TE)
 |0,_,_=>none
 |n+1,st,L=>
  if (rI (qU L)).1=3\/(rI (qU L)).1=0 then(uC G3 (qU L)).map fun r=>(st,r)
  else if (rI (qU L)).2.1=MF then(match AD (rI (qU L)) st.2.2.1 (qU L) with
   |some (cs,r)=>vQ n (st.1,st.2.1,cs,st.2.2.2.1,st.2.2.2.2.1,st.2.2.2.2.2) r
   |none=>none)
  else if (rI (qU L)).2.1=MG then(match AE (rI (qU L)) st.2.2.2.1 (qU L) with
   |some (fs,r)=>vQ n (st.1,st.2.1,st.2.2.1,fs,st.2.2.2.2.1,st.2.2.2.2.2) r
   |none=>none)
  else if (rI (qU L)).2.1=zT then(if (rI (qU L)).2.2.1=[]/\(rI (qU L)).2.2.2=false/\st.2.2.2.2.1=false then(match yB (rI (qU L)) (qU L) with
   |some (s,r)=>vQ n (s,st.2.1,st.2.2.1,st.2.2.2.1,true,st.2.2.2.2.2) r
   |none=>none) else none)
  else if (rI (qU L)).2.1=G2 then(if (rI (qU L)).2.2.1=[]/\(rI (qU L)).2.2.2=false/\st.2.2.2.2.2=false then(match yB (rI (qU L)) (qU L) with
   |some (s,r)=>vQ n (st.1,s,st.2.2.1,st.2.2.2.1,st.2.2.2.2.1,true) r
   |none=>none) else none)
  else none
def DN (l:List t6):Int:=(qW (.pair (.int .i64) (.pair .str (.pair (.int .i64) .unit))) l 0).2.2.1
def AF (l:List t6):Prop:= ∀i (h:i+1<l.length),(l[i+1]'h).2.2.1=(l[i]'pG).2.2.1+((l[i]'pG).2.1.length:Int)
theorem AF.drop {l:List t6}(h:AF l) (k:Nat):AF (l.drop k):=by
 intro i hi;rw[aL8] at hi;simp only[List.getElem_drop];have:=h (k+i) pG;simpa[aMy] using this
theorem uD.cont {a b:List t6}(h:uD a b) (hb:AF b):AF a:=by
 obtain⟨k,_,rfl⟩:=h;exact hb.drop k
end
noncomputable section
abbrev R8:=Int×List t6×Int×Int×pD×pD×pE×List sK
theorem a5h {t:t6}{r:List t6}(hc:AF (t::r)) (hr:r≠[]):t.2.2.1+(t.2.1.length:Int)=DN r:=by
 cases r with
 |nil=>exact absurd rfl hr
 |cons u r=>exact(hc 0 pI).symm
theorem aIT {l l':List t6}{name:pD}{r:List TE}(hl:vV l) (hc:AF l) (hs:uD l' l) (h:uC name (l.map er)=some r) (hm:l'.map er=r):
  (qW (.pair (.int .i64) (.pair .str (.pair (.int .i64) .unit))) l 0).2.2.1+((qW (.pair (.int .i64) (.pair .str (.pair (.int .i64) .unit))) l 0).2.1.length:Int)=DN l'/\l'.length<l.length:=by
 obtain⟨t,q,rfl⟩:=hl.head;have h':(if (uV (er t)).1=3/\(uV (er t)).2.1=name then some (q.map er) else none)=some r:=h;split at h'
 .rename_i h3;have h2:t.1=2:=PY (t:=er t) (by rw[h3.1];decide);have hmore:=hl.more (.inl h2);have hq:l'=q:=by
   obtain⟨k,hk,rfl⟩:=hs;have e1:=aL9 List.length hm;rw[<-aLS h',aMM,aMM,aL8] at e1;simp only[aLY] at e1 hk;obtain rfl:k=1:=by omega
   rfl
  subst hq;refine⟨a5h hc ?_,by simp⟩;rintro rfl;simp at hmore
 .cases h'
section
variable {c:sQ}{en:pM×Unit}{p:rW}{ids:pK}
theorem MJ {l:List t6}(hl:vV l) {a e:Int}(he:e≠0) (sr tg:pD) (cm:pE) (fd:List sK) (m:pK):
  ∃r:R8,rX (zB c en p ids) (l,a,e,sr,tg,cm,fd,m)=some r/\uD r.2.1 l/\r.2.2.2.1≠0:=by
 obtain⟨l',a',e',h1,p1,_⟩:=MD hl a e (c.1,(c.2.1,(c.2.2.1,(c.2.2.2.1,())))) (en.1,()) ids G3;refine⟨((qW (.pair (.int .i64) (.pair .str (.pair (.int .i64) .unit))) l 0).2.2.1+((qW (.pair (.int .i64) (.pair .str (.pair (.int .i64) .unit))) l 0).2.1.length:Int),l',a',e',sr,tg,cm,fd),vF ?_,p1.suf,p1.bad he⟩
 .unfold zB;dsimp only;rw[B5 hl,aLP,aLU he,B6 hl,aLP,aLU he,aLQ pH,h1,aLP]
theorem aCZ {l:List t6}(hl:vV l) (h:(rI (l.map er)).1≠0): ∃t r,l=t::r/\t.1=2:=by
 obtain⟨t,r,rfl⟩:=hl.head;exact⟨t,r,rfl,PY (t:=er t) h⟩
theorem aC0: ∀(n:Nat) (s:pD) (l:List sK) (tw:Bool) (l':List sK) (tw':Bool),G1 n s l tw=some (l',tw')->l'.length<=l.length+s.length
 |0,_,_,_,_,_,h=>by cases h
 |n+1,s,l,tw,l',tw',h=>by
  have hd:=aCH blk s;unfold G1 at h;split at h
  .cases h;omega
  .split at h
   .cases h
   .rename_i a v rest ha;split at h
    .cases h
    .have ih:=aC0 n _ _ _ _ _ h;have hr:rest.length+1<=(s.dropWhile blk).length:=by
      unfold JW at ha;split at ha
      .cases ha
      .rename_i hw;split at ha
       .cases ha
       .split at ha
        .cases ha
        .split at ha
         .cases ha;have h1:=aCF ((s.dropWhile blk).drop (tN (s.dropWhile blk))) [61,34];have h2:=(aCG (x4 ((s.dropWhile blk).drop (tN (s.dropWhile blk))) [61,34]).1).2;rw[aL8] at h1;have:=PX (s.dropWhile blk);omega
         .cases ha
     rw[aLT] at ih;simp only[aLY,aMh] at ih;omega
theorem aIU {t:TE}(h:t.2.length<=1000000000):(uV t).2.2.1.length<=1000000000:=by
 unfold uV;split
 .cases hr:HN t.2 with
  |none=>simp [eN]
  |some x=>
   show x.2.2.1.length<=_;unfold HN at hr;split at hr
   .split at hr
    .cases hr
    .cases hr;simp
   .dsimp only at hr;generalize hu:(if ((t.2.drop 1).take (t.2.length-2)).drop (t.2.length-3)=[47] then(((t.2.drop 1).take (t.2.length-2)).take (t.2.length-3),(2:Int)) else((t.2.drop 1).take (t.2.length-2),1))=u at hr;have hul:u.1.length<=t.2.length:=by
     rw[<-hu];split<;>simp<;>omega
    split at hr
    .cases hr
    .obtain⟨q,hq,rfl⟩:=aLW.1 hr;have:=aC0 _ _ _ _ _ _ hq;dsimp only;simp only[aMh,aL8,aMs] at this;omega
 .simp [eN]
theorem UG {l:List t6}(hl:vV l):(rI (l.map er)).2.2.1.length<=1000000000:=by
 obtain⟨t,r,rfl⟩:=hl.head;exact aIU (t:=er t) (hl.txt t aL7)
theorem Q1: ∀(n:Nat) (l:List t6) (a e:Int) (sr tg:pD) (cm:pE) (fd:List sK) (m:pK) (sS sT:Bool),
  l.length<=n->vV l->AF l->rS .str .bool m zT=sS->rS .str .bool m G2=sT->(e=0->cm.length<=20/\fd.length<=20)->
  ∃r:R8,rX (zB c en p ids) (l,a,e,sr,tg,cm,fd,m)=some r/\uD r.2.1 l/\(e≠0->r.2.2.2.1≠0)/\(e=0->match vQ (n+1) (sr,tg,cm,fd,sS,sT) (l.map er) with
   |some (st,q)=>r.2.2.2.1=0/\r.2.1.map er=q/\r.2.2.2.2=(st.1,st.2.1,st.2.2.1,st.2.2.2.1)/\r.1=DN r.2.1/\r.2.1.length<l.length
   |none=>r.2.2.2.1≠0)
 |n,l,a,e,sr,tg,cm,fd,m,sS,sT,hn,hl,hcn,hS,hT,hb=>by
  by_cases he:e=0
  .subst he;have hsk:=HS hl;have hl1:=hsk.ok hl;have hc1:=hsk.cont hcn;have hle1:=hsk.le;have her:=MC l;obtain⟨hb1,hb2⟩:=hb rfl;have hxl:=UG hl1;unfold vQ;rw[<-her];generalize hx:rI ((tG l).map er)=x at hxl;by_cases h30:x.1=3\/x.1=0
   .obtain⟨l2,a2,e2,h2,p2,m2⟩:=MD hl1 a 0 (c.1,(c.2.1,(c.2.2.1,(c.2.2.2.1,())))) (en.1,()) ids G3;have hst:zB c en p ids (l,a,0,sr,tg,cm,fd,m)=some (.inr ((qW (.pair (.int .i64) (.pair .str (.pair (.int .i64) .unit))) (tG l) 0).2.2.1+((qW (.pair (.int .i64) (.pair .str (.pair (.int .i64) .unit))) (tG l) 0).2.1.length:Int),l2,a2,e2,sr,tg,cm,fd)):=by
     unfold zB;dsimp only;rw[B5 hl,aLP,aLQ rfl,B6 hl1,aLP,aLQ rfl,hx,aLQ (by simpa using h30),h2,aLP]
    refine⟨_,vF hst,p2.suf.trans hsk,fun h=>absurd rfl h,fun _=> ?_⟩;rw[aLQ h30];have m2':=m2 rfl;cases hnd:uC G3 ((tG l).map er) with
    |none=>rw[hnd] at m2';exact m2'
    |some r=>
     rw[hnd] at m2';have hp:=aIT hl1 hc1 p2.suf hnd m2'.2;exact⟨m2'.1,m2'.2,rfl,hp.1,by have:=hp.2;dsimp only at this|-;omega⟩
   .rw[aLU h30];have hx0:x.1≠0:=fun h=>h30 (.inr h);have hhd:(0:Int)=0->∃t r,tG l=t::r/\t.1=2:=fun _=>aCZ hl1 (by rw[hx];exact hx0);cases n with
    |zero=>
     have:=aMn.2 hl.ne;omega
    |succ n=>
    by_cases hkc:x.2.1=MF
    .rw[aLQ hkc];obtain⟨l2,a2,e2,cs,h2,p2,m2⟩:=aCW hl1 a 0 (c.1,(c.2.1,(c.2.2.1,(c.2.2.2.1,())))) (en.1,()) ids x (p.1,(sr,(tg,(cm,(p.2.2.2.2.1,(p.2.2.2.2.2.1,(fd,()))))))) hhd hxl (by dsimp only;omega);have hst:zB c en p ids (l,a,0,sr,tg,cm,fd,m)=some (.inl (l2,a2,e2,sr,tg,cs,fd,m)):=by
      unfold zB;dsimp only;rw[B5 hl,aLP,aLQ rfl,B6 hl1,aLP,aLQ rfl,hx,aLU (by simpa using h30),aLQ (aMg hkc),h2,aLP]
     have m2':=m2 rfl;dsimp only at m2';have hl2:=p2.suf.ok hl1;cases hcm:AD x cm ((tG l).map er) with
     |none=>
      rw[hcm] at m2';obtain⟨r,hr1,hr2,hr3⟩:=MJ (c:=c) (en:=en) (p:=p) (ids:=ids) hl2 (a:=a2) m2' sr tg cs fd m;exact⟨r,by rw[vN hst];exact hr1,(hr2.trans p2.suf).trans hsk,fun h=>absurd rfl h,fun _=>hr3⟩
     |some cr=>
      obtain⟨cs',r'⟩:=cr;rw[hcm] at m2';obtain⟨k1,k2,k3,k4⟩:=m2';subst k1 k3;have hcs:cs.length<=20:=by
       unfold AD at hcm;split at hcm
       .rename_i hh;obtain⟨q,_,hq⟩:=aLW.1 hcm;have:=aL9 Prod.fst hq;dsimp only at this;rw[<-this,aLT];simp only[aLY,aMh];have:=hh.2.2;omega
       .cases hcm
      obtain⟨r,hr1,hr2,hr3,hr4⟩:=Q1 n l2 a2 0 sr tg cs fd m sS sT pG hl2 (p2.suf.cont hc1) hS hT (fun _=>⟨hcs,hb2⟩);refine⟨r,by rw[vN hst];exact hr1,(hr2.trans p2.suf).trans hsk,fun h=>absurd rfl h,fun _=> ?_⟩;have hr4':=hr4 rfl;rw[k2] at hr4';dsimp only;cases hin:vQ (n+1) (sr,tg,cs,fd,sS,sT) r' with
      |none=>rw[hin] at hr4';exact hr4'
      |some w=>
       rw[hin] at hr4';exact⟨hr4'.1,hr4'.2.1,hr4'.2.2.1,hr4'.2.2.2.1,by have:=hr4'.2.2.2.2;omega⟩
    .rw[aLU hkc];by_cases hkf:x.2.1=MG
     .rw[aLQ hkf];obtain⟨l2,a2,e2,fs,h2,p2,m2⟩:=aCY hl1 a 0 (c.1,(c.2.1,(c.2.2.1,(c.2.2.2.1,())))) (en.1,()) ids x (p.1,(sr,(tg,(cm,(p.2.2.2.2.1,(p.2.2.2.2.2.1,(fd,()))))))) hhd hxl (by dsimp only;omega);have hst:zB c en p ids (l,a,0,sr,tg,cm,fd,m)=some (.inl (l2,a2,e2,sr,tg,cm,fs,m)):=by
       unfold zB;dsimp only;rw[B5 hl,aLP,aLQ rfl,B6 hl1,aLP,aLQ rfl,hx,aLU (by simpa using h30),aLU (by simpa using hkc),aLQ (aMg hkf),h2,aLP]
      have m2':=m2 rfl;dsimp only at m2';have hl2:=p2.suf.ok hl1;cases hcm:AE x fd ((tG l).map er) with
      |none=>
       rw[hcm] at m2';obtain⟨r,hr1,hr2,hr3⟩:=MJ (c:=c) (en:=en) (p:=p) (ids:=ids) hl2 (a:=a2) m2' sr tg cm fs m;exact⟨r,by rw[vN hst];exact hr1,(hr2.trans p2.suf).trans hsk,fun h=>absurd rfl h,fun _=>hr3⟩
      |some cr=>
       obtain⟨fs',r'⟩:=cr;rw[hcm] at m2';obtain⟨k1,k2,k3,k4⟩:=m2';subst k1 k3;have hcs:fs.length<=20:=by
        unfold AE at hcm;split at hcm
        .rename_i hh;obtain⟨q,_,hq⟩:=aLW.1 hcm;have:=aL9 Prod.fst hq;dsimp only at this;rw[<-this];have h3:=aCe fd (sH x.2.2.1 x6) q.1;have:=hh.2.2.2.2;omega
        .cases hcm
       obtain⟨r,hr1,hr2,hr3,hr4⟩:=Q1 n l2 a2 0 sr tg cm fs m sS sT pG hl2 (p2.suf.cont hc1) hS hT (fun _=>⟨hb1,hcs⟩);refine⟨r,by rw[vN hst];exact hr1,(hr2.trans p2.suf).trans hsk,fun h=>absurd rfl h,fun _=> ?_⟩;have hr4':=hr4 rfl;rw[k2] at hr4';dsimp only;cases hin:vQ (n+1) (sr,tg,cm,fs,sS,sT) r' with
       |none=>rw[hin] at hr4';exact hr4'
       |some w=>
        rw[hin] at hr4';exact⟨hr4'.1,hr4'.2.1,hr4'.2.2.1,hr4'.2.2.2.1,by have:=hr4'.2.2.2.2;omega⟩
     .rw[aLU hkf];by_cases hst2:x.2.1=zT\/x.2.1=G2
      ·
       obtain⟨v1,v2⟩:=ME x [] [] hxl pH pH pH pH (by rw[MH];decide) (by rw[MI];decide);rw[MH,MI,a5g] at v1 v2;obtain⟨o,ho⟩: ∃o:Bool,o=decide (x.2.2.1=[]):=⟨_,rfl⟩;have hck:=EP (l:=tG l) a 0 (!o) (x.2.2.2||rS .str .bool m x.2.1) false
       generalize hq:zC (tG l) a 0 (!o) (x.2.2.2||rS .str .bool m x.2.1) false=q at hck
       obtain⟨a1,e1⟩:=q;dsimp only at hck;obtain⟨s,l2,a2,e2,h2,p2,s2,m2⟩:=PZ hl1 a1 e1 (c.1,(c.2.1,(c.2.2.1,(c.2.2.2.1,())))) (en.1,()) ids x (fun _=>hhd rfl);have hbn:(t8 (σ:=Bool) (if (decide (x.2.1=zT))=true then some ((decide (x.2.1=zT))) else some ((decide (x.2.1=G2)))) fun q=>some q)=some true:=by
        unfold t8;rcases hst2 with h|h
        .rw[aLQ (aMg h),aMg h];rfl
        .rw[aLU (by rw[h];decide),aMg h];rfl
       have hst:zB c en p ids (l,a,0,sr,tg,cm,fd,m)=some (.inl (if x.2.1=zT then(l2,a2,e2,s,tg,cm,fd,tO .str .bool x.2.1 true m) else(l2,a2,e2,sr,s,cm,fd,tO .str .bool x.2.1 true m))):=by
        unfold zB;dsimp only;rw[B5 hl,aLP,aLQ rfl,B6 hl1,aLP,aLQ rfl,hx,aLU (by simpa using h30),aLU (by simpa using hkc),aLU (by simpa using hkf)];unfold t8 at hbn|-;generalize (if (decide (x.2.1=zT))=true then some ((decide (x.2.1=zT))) else some ((decide (x.2.1=G2))))=oo at hbn|-;cases oo with
        |none=>cases hbn
        |some bb=>
         obtain rfl:bb=true:=aLS hbn;rw[aLP,aLQ rfl];cases o with
         |true=>
          rw[<-ho,aLQ rfl] at v1;rw[v1,aLQ pV,aLP,B4 hl1,hq,aLP];dsimp only;rw[h2,aLP];by_cases hs:x.2.1=zT
          .rw[aLQ (aMg hs),aLQ hs]
          .rw[aLU (by simpa using hs),aLU hs]
         |false=>
          rw[<-ho,aLU pH] at v1;rw[v1,aLU pH,v2 ho.symm,aLP,B4 hl1,hq,aLP];dsimp only;rw[h2,aLP];by_cases hs:x.2.1=zT
          .rw[aLQ (aMg hs),aLQ hs]
          .rw[aLU (by simpa using hs),aLU hs]
       have hl2:=p2.suf.ok hl1;have hbad:e2≠0->∃r:R8,rX (zB c en p ids) (l,a,0,sr,tg,cm,fd,m)=some r/\uD r.2.1 l/\r.2.2.2.1≠0:=fun h0=>by
        rw[vN hst];by_cases hs:x.2.1=zT
        .rw[aLQ hs];obtain⟨r,hr1,hr2,hr3⟩:=MJ (c:=c) (en:=en) (p:=p) (ids:=ids) hl2 (a:=a2) h0 s tg cm fd (tO .str .bool x.2.1 true m);exact⟨r,hr1,(hr2.trans p2.suf).trans hsk,hr3⟩
        .rw[aLU hs];obtain⟨r,hr1,hr2,hr3⟩:=MJ (c:=c) (en:=en) (p:=p) (ids:=ids) hl2 (a:=a2) h0 sr s cm fd (tO .str .bool x.2.1 true m);exact⟨r,hr1,(hr2.trans p2.suf).trans hsk,hr3⟩
       have hnone:e2≠0->∀w:Option (HT×List TE),w=none->∃r:R8,rX (zB c en p ids) (l,a,0,sr,tg,cm,fd,m)=some r/\uD r.2.1 l/\((0:Int)≠0->r.2.2.2.1≠0)/\((0:Int)=0->match w with
         |some (st,q)=>r.2.2.2.1=0/\r.2.1.map er=q/\r.2.2.2.2=(st.1,st.2.1,st.2.2.1,st.2.2.2.1)/\r.1=DN r.2.1/\r.2.1.length<l.length
         |none=>r.2.2.2.1≠0):=fun h0 w hw=>by
        obtain⟨r,hr1,hr2,hr3⟩:=hbad h0;subst hw;exact⟨r,hr1,hr2,fun h=>absurd rfl h,fun _=>hr3⟩
       by_cases hs:x.2.1=zT
       .rw[aLQ hs];by_cases hok:x.2.2.1=[]/\x.2.2.2=false/\sS=false
        .have hcond:x.2.2.1=[]/\x.2.2.2=false/\(sr,tg,cm,fd,sS,sT).2.2.2.2.1=false:=hok;rw[aLQ hcond];have he1:e1=0:=hck.2 ⟨rfl,by rw[ho,aMg hok.1];rfl,by rw[hok.2.1,hs,hS,hok.2.2];rfl,rfl⟩;have m2':=m2 he1;cases hct:yB x ((tG l).map er) with
         |none=>rw[hct] at m2';exact hnone m2' _ rfl
         |some w=>
          obtain⟨s',r'⟩:=w;rw[hct] at m2';obtain⟨k1,k2,k3,k4⟩:=m2';subst k1 k3;rw[aLQ hs] at hst;obtain⟨r,hr1,hr2,hr3,hr4⟩:=Q1 n l2 a2 0 s tg cm fd (tO .str .bool x.2.1 true m) true sT pG hl2 (p2.suf.cont hc1) (by rw[JV,hs,aLQ rfl]) (by rw[JV,hs,aLU pH];exact hT) (fun _=>⟨hb1,hb2⟩);refine⟨r,by rw[vN hst];exact hr1,(hr2.trans p2.suf).trans hsk,fun h=>absurd rfl h,fun _=> ?_⟩;have hr4':=hr4 rfl;rw[k2] at hr4';dsimp only;cases hin:vQ (n+1) (s,tg,cm,fd,true,sT) r' with
          |none=>rw[hin] at hr4';exact hr4'
          |some w=>
           rw[hin] at hr4';exact⟨hr4'.1,hr4'.2.1,hr4'.2.2.1,hr4'.2.2.2.1,by have:=hr4'.2.2.2.2;omega⟩
        .have hcond: ¬(x.2.2.1=[]/\x.2.2.2=false/\(sr,tg,cm,fd,sS,sT).2.2.2.2.1=false):=hok;rw[aLU hcond];refine hnone (p2.bad fun he1=>hok ?_) _ rfl;obtain⟨_,q1,q2,_⟩:=hck.1 he1;rw[ho] at q1;rw[hs,hS,aMz] at q2;exact⟨by simpa using q1,q2.1,q2.2⟩
       .rw[aLU hs];have hs2:x.2.1=G2:=by
         rcases hst2 with h|h
         .exact absurd h hs
         .exact h
        rw[aLQ hs2];by_cases hok:x.2.2.1=[]/\x.2.2.2=false/\sT=false
        .have hcond:x.2.2.1=[]/\x.2.2.2=false/\(sr,tg,cm,fd,sS,sT).2.2.2.2.2=false:=hok;rw[aLQ hcond];have he1:e1=0:=hck.2 ⟨rfl,by rw[ho,aMg hok.1];rfl,by rw[hok.2.1,hs2,hT,hok.2.2];rfl,rfl⟩;have m2':=m2 he1;cases hct:yB x ((tG l).map er) with
         |none=>rw[hct] at m2';exact hnone m2' _ rfl
         |some w=>
          obtain⟨s',r'⟩:=w;rw[hct] at m2';obtain⟨k1,k2,k3,k4⟩:=m2';subst k1 k3;rw[aLU hs] at hst;obtain⟨r,hr1,hr2,hr3,hr4⟩:=Q1 n l2 a2 0 sr s cm fd (tO .str .bool x.2.1 true m) sS true pG hl2 (p2.suf.cont hc1) (by rw[JV,hs2,aLU pH];exact hS) (by rw[JV,hs2,aLQ rfl]) (fun _=>⟨hb1,hb2⟩);refine⟨r,by rw[vN hst];exact hr1,(hr2.trans p2.suf).trans hsk,fun h=>absurd rfl h,fun _=> ?_⟩;have hr4':=hr4 rfl;rw[k2] at hr4';dsimp only;cases hin:vQ (n+1) (sr,s,cm,fd,sS,true) r' with
          |none=>rw[hin] at hr4';exact hr4'
          |some w=>
           rw[hin] at hr4';exact⟨hr4'.1,hr4'.2.1,hr4'.2.2.1,hr4'.2.2.2.1,by have:=hr4'.2.2.2.2;omega⟩
        .have hcond: ¬(x.2.2.1=[]/\x.2.2.2=false/\(sr,tg,cm,fd,sS,sT).2.2.2.2.2=false):=hok;rw[aLU hcond];refine hnone (p2.bad fun he1=>hok ?_) _ rfl;obtain⟨_,q1,q2,_⟩:=hck.1 he1;rw[ho] at q1;rw[hs2,hT,aMz] at q2;exact⟨by simpa using q1,q2.1,q2.2⟩
      ·
       have hs1: ¬x.2.1=zT:=fun h=>hst2 (.inl h);have hs2: ¬x.2.1=G2:=fun h=>hst2 (.inr h);rw[aLU hs1,aLU hs2];have hst:zB c en p ids (l,a,0,sr,tg,cm,fd,m)=some (.inl (tG l,(CL (tG l) a 0 3).1,(CL (tG l) a 0 3).2,sr,tg,cm,fd,m)):=by
        unfold zB;dsimp only;rw[B5 hl,aLP,aLQ rfl,B6 hl1,aLP,aLQ rfl,hx,aLU (by simpa using h30),aLU (by simpa using hkc),aLU (by simpa using hkf)];have hbn:(if (decide (x.2.1=zT))=true then some ((decide (x.2.1=zT))) else some ((decide (x.2.1=G2))))=some false:=by
         rw[aLU (by simpa using hs1),decide_eq_false hs2]
        unfold t8;rw[hbn,aLP,aLU pH,HQ hl1,aLP]
       obtain⟨r,hr1,hr2,hr3⟩:=MJ (c:=c) (en:=en) (p:=p) (ids:=ids) hl1 (a:=(CL (tG l) a 0 3).1) (EO (l:=tG l) a 0 (code:=3) pH) sr tg cm fd m;exact⟨r,by rw[vN hst];exact hr1,hr2.trans hsk,fun h=>absurd rfl h,fun _=>hr3⟩
  .obtain⟨r,hr1,hr2,hr3⟩:=MJ (c:=c) (en:=en) (p:=p) (ids:=ids) hl (a:=a) he sr tg cm fd m;exact⟨r,hr1,hr2,fun _=>hr3,fun h=>absurd h he⟩
end
end
noncomputable section
theorem aC1:Lib.fields ((uE++[32])++([115,116,97,116,101,32,102,108,97,103,115]:pD))=[uE,zD,uR]:=by kernel_rfl
theorem aC2:Lib.fields uE=[uE]:=by kernel_rfl
def JZ (l:pE):Bool:=decide ((Lib.compact (sI l)).length<(sI l).length)
def CN:HT:=([],[],[],[],false,false)
def xJ (es:List rW) (x:x5) (L:List TE):Option (rW×List TE):=
  if (x.1=1∨x.1=2)∧x.2.1=G3∧yO x.2.2.1 [uE] [uE,zD,uR]=true∧x.2.2.1.any CM=false∧x.2.2.2=false∧(es.any fun y=>decide (y.1=sH x.2.2.1 uE))=false∧
    JZ (tT (sH x.2.2.1 uR))=false∧(tT (sH x.2.2.1 uR)).length≤20∧es.length≠1000 then
    (if x.1=1 then vQ L.length CN (L.drop 1) else some (CN,L.drop 1)).map fun r=>
      ((sH x.2.2.1 uE,(r.1.1,(r.1.2.1,(r.1.2.2.1,(sI (tT (sH x.2.2.1 uR)),(max 0 (C0 (sH x.2.2.1 zD)),(r.1.2.2.2.1,()))))))),r.2)
  else none
theorem aIV {l:List sK}{n:pD}(h: ∀a∈l,a.2.1.length≤4000):(sH l n).length≤4000:=by
  have go: ∀(l:List sK) (v:pD),(∀a∈l,a.2.1.length≤4000)→v.length≤4000→(l.foldl (fun v a=>if n=a.1 then a.2.1 else v) v).length≤4000:=by
    intro l
    induction l with
    |nil=>intro v _ hv;exact hv
    | cons a l ih=>
      intro v hl hv;rw[List.foldl_cons];refine ih _ (fun b hb=>hl b (aL5 _ hb)) ?_;split
      .exact hl a aL7
      .exact hv
  exact go l [] h pI
theorem aIW {s n v r:pD}(h:JW s=some (n,v,r)):vA v=true:=by
  unfold JW at h;split at h
  .cases h
  · split at h
    .cases h
    · split at h
      .cases h
      · split at h
        · rename_i hv
          cases h;unfold yA at hv;split at hv
          · split at hv
            .rename_i ht;cases hv;exact ht
            .cases hv
          .cases hv
        .cases h
theorem aC3: ∀(n:Nat) (s:pD) (l:List sK) (tw:Bool) (l':List sK) (tw':Bool),G1 n s l tw=some (l',tw')→(∀a∈l,vA a.2.1=true)→∀a∈l',vA a.2.1=true
  |0,_,_,_,_,_,h,_=>by cases h
  | n+1,s,l,tw,l',tw',h,hl=>by
    unfold G1 at h;split at h
    .cases h;exact hl
    · split at h
      .cases h
      · rename_i a v rest ha
        split at h
        .cases h
        · refine aC3 n _ _ _ _ _ h fun b hb=> ?_
          rcases aML.1 hb with hb|hb
          .exact hl b hb
          .rw[aL6.1 hb];exact aIW ha
theorem aIX (t:TE): ∀a∈(uV t).2.2.1,vA a.2.1=true:=by
  unfold uV;split
  · cases hr:HN t.2 with
    |none=>intro a ha;cases ha
    | some x=>
      show∀a∈x.2.2.1,_;unfold HN at hr;split at hr
      · split at hr
        .cases hr
        .cases hr;intro a ha;cases ha
      · dsimp only at hr
        generalize (if ((t.2.drop 1).take (t.2.length-2)).drop (t.2.length-3)=[47] then(((t.2.drop 1).take (t.2.length-2)).take (t.2.length-3),(2:Int)) else((t.2.drop 1).take (t.2.length-2),1))=u at hr;split at hr
        .cases hr
        · obtain⟨q,hq,rfl⟩:=aLW.1 hr
          exact aC3 _ _ _ _ _ _ hq (fun a ha=>by cases ha)
  .intro a ha;cases ha
theorem aC4 (L:List TE): ∀a∈(rI L).2.2.1,vA a.2.1=true:=by
  cases L with
  |nil=>intro a ha;cases ha
  |cons t r=>exact aIX t
theorem aIY {x:pD}(h:vA x=true):x.length≤4000:=HL h
section
variable {l:List t6}(hl:vV l) (hcn:AF l) (a:Int) (c:sQ) (en:pM×Unit) (ids:pK)
include hl hcn
theorem aIZ (hids:MA ids c.2.2.2.1) (hes:c.2.2.2.1.length≤1000) (hen:en.1.length≤5000): ∃l' a' e' es' en' ids',AV l a 0 c en ids=some (l',a',e',es',en',ids')∧uD l' l∧
    (match xJ c.2.2.2.1 (rI (l.map er)) (l.map er) with
      |some (y,r)=>e'=0∧l'.map er=r∧es'=c.2.2.2.1++[y]∧en'=en.1++[DN l']∧MA ids' es'∧l'.length<l.length
      |none=>e'≠0):=by
  have hxl:=UG hl;have htx:=aC4 (l.map er);have hpk:=aCZ hl;unfold AV;rw[B6 hl,aLP,aLQ rfl];generalize rI (l.map er)=x at hxl htx hpk;obtain⟨v1,v2⟩:=ME x uE [115,116,97,116,101,32,102,108,97,103,115] hxl pH pH pH pH (by rw[aC1];decide) (by rw[aC2];decide);rw[aC1,aC2] at v1 v2;have hv4: ∀a∈x.2.2.1,a.2.1.length≤4000:=fun a ha=>aIY (htx a ha);have haw:=aIR (l:=x.2.2.1) hxl (fun a ha=>by have:=hv4 a ha;omega);have hsm: ∀n,(sH x.2.2.1 n).length≤4000:=fun n=>aIV hv4
  have hfl: ∀v:pD,v.length≤4000→(tT v).length≤4001:=fun v hv=>by
    have h1:=aCS v;have h2:=aCT (tM v [32]);unfold tT;omega
  have hclone: ∀q:pE,q.length≤4001→wY q=some q:=fun q hq=>by
    unfold wY;rw[aLQ pG];rfl
  by_cases h:yO x.2.2.1 [uE] [uE,zD,uR]=true
  · rw[h,aLQ rfl] at v1
    rw[v1,aLQ pV,aLP,Q0,Q0,Q0];have hF:=hfl _ (hsm uR);have hS:(sI (tT (sH x.2.2.1 uR))).length≤4001:=by rw[U7];exact hF
    rw[a5e (by show (sH x.2.2.1 uR).length≤_;have:=hsm uR;omega),aLP];show∃l' a' e' es' en' ids',(if (tT (sH x.2.2.1 uR)).length<4611686018427387904 then _ else none)=_∧_;rw[aLQ pG,aLQ (fun _=>by rw[haw];rfl),haw,hids];obtain⟨w,hw⟩: ∃w:Bool,((((!decide (x.1=(1:Int)))&&(!decide (x.1=(2:Int))))||(!decide (x.2.1=G3)))||val (some (x.2.2.1.any CM)))=w:=⟨_,rfl⟩
    have hw':w=false↔(x.1=1∨x.1=2)∧x.2.1=G3∧x.2.2.1.any CM=false:=by
      rw[←hw];show (_||x.2.2.1.any CM)=false↔_
      simp only[aMz,aNw,aM1,aMj];constructor
      .rintro⟨⟨h1,h2⟩,h3⟩;exact⟨h1,h2,h3⟩
      .rintro⟨h1,h2,h3⟩;exact⟨⟨h1,h2⟩,h3⟩
    obtain⟨u,hu⟩: ∃u:Bool,((decide ((20:Int)<((sI (tT (sH x.2.2.1 uR))).length:Int)))||(decide ((c.2.2.2.1.length:Int)=(1000:Int))))=u:=⟨_,rfl⟩
    have hu':u=false↔(tT (sH x.2.2.1 uR)).length≤20∧c.2.2.2.1.length≠1000:=by
      rw[←hu,U7];simp only[aMz,aMH];constructor
      .rintro⟨h1,h2⟩;exact⟨pG,pG⟩
      .rintro⟨h1,h2⟩;exact⟨pG,pG⟩
    have tail: ∀(q:Int×Int),q.2≠0∨(q.2=0∧(xJ c.2.2.2.1 x (l.map er)=((if x.1=1 then vQ (l.map er).length CN ((l.map er).drop 1) else some (CN,(l.map er).drop 1)).map fun r=>((sH x.2.2.1 uE,(r.1.1,(r.1.2.1,(r.1.2.2.1,(sI (tT (sH x.2.2.1 uR)),(max 0 (C0 (sH x.2.2.1 zD)),(r.1.2.2.2.1,()))))))),r.2)))∧(x.1=1∨x.1=2)∧c.2.2.2.1.length≠1000)→
        (q.2≠0→xJ c.2.2.2.1 x (l.map er)=none)→
        ∃l' a' e' es' en' ids',(if (!decide (q.2=(0:Int)))=true then
         some ((l,q.1,q.2,c.2.2.2.1,en.1,ids))
        else
         (AS ([([110,101,119]:pD),([102,117,122,122,121]:pD),([116,114,97,110,115,108,97,116,101,100]:pD),([114,101,118,105,101,119,101,100]:pD),([111,98,115,111,108,101,116,101]:pD)]:pE) (sH x.2.2.1 zD)).bind fun O=>
         (wX l q.1 q.2 (c.1,(c.2.1,(c.2.2.1,(c.2.2.2.1,())))) (en.1,()) (tO .str .bool (sH x.2.2.1 uE) true ids)).bind fun Z=>
         t8 (σ:=(Int×(List s7)×Int×Int×pD×pD×pE×(List qZ))) (
           if (decide (x.1=(1:Int)))=true then
            (y7 Z q.1 q.2 (c.1,(c.2.1,(c.2.2.1,(c.2.2.2.1,())))) (en.1,()) (sH x.2.2.1 uE,(([]:pD),(([]:pD),(([]:pE),((sI (tT (sH x.2.2.1 uR))),((max (0:Int) O),(([]:List qZ),()))))))) (tO .str .bool (sH x.2.2.1 uE) true ids)).bind fun aA=>
            some ((aA.1,aA.2.1,aA.2.2.1,aA.2.2.2.1,aA.2.2.2.2.1,aA.2.2.2.2.2.1,aA.2.2.2.2.2.2.1,aA.2.2.2.2.2.2.2))
           else
            some ((((qW (.pair (.int .i64) (.pair .str (.pair (.int .i64) .unit))) l (0:Int)).2.2.1+(List.length ((qW (.pair (.int .i64) (.pair .str (.pair (.int .i64) .unit))) l (0:Int)).2.1):Int)),Z,q.1,q.2,([]:pD),([]:pD),([]:pE),([]:List qZ)))
          ) fun(aB,aC,aD,aE,aF,aG,aH,aI)=>
         if (List.length c.2.2.2.1+List.length ([(sH x.2.2.1 uE,(aF,(aG,(aH,((sI (tT (sH x.2.2.1 uR))),((max (0:Int) O),(aI,())))))))]:List rW))*128≤140737488355328 then
          if (List.length en.1+List.length ([aB]:pM))*8≤140737488355328 then
           some ((aC,aD,aE,(c.2.2.2.1++([(sH x.2.2.1 uE,(aF,(aG,(aH,((sI (tT (sH x.2.2.1 uR))),((max (0:Int) O),(aI,())))))))]:List rW)),(en.1++([aB]:pM)),(tO .str .bool (sH x.2.2.1 uE) true ids)))
          else none
         else none)=some (l',a',e',es',en',ids')∧uD l' l∧
        (match xJ c.2.2.2.1 x (l.map er) with
          |some (y,r)=>e'=0∧l'.map er=r∧es'=c.2.2.2.1++[y]∧en'=en.1++[DN l']∧MA ids' es'∧l'.length<l.length
          |none=>e'≠0):=by
      rintro⟨a1,e1⟩ hq hq0;dsimp only at hq hq0|-;by_cases he1:e1=0
      · subst he1
        rcases hq with hq|⟨_,hq,hform,hlen⟩
        .exact absurd rfl hq
        obtain⟨t,r,hlr,ht⟩:=hpk (by rcases hform with h|h<;>rw[h]<;>decide)
        subst hlr;have hmore:=hl.more (.inl ht)
        have hs1:w3 (t::r) 0=r:=by
          unfold w3;rw[aLQ ⟨rfl,hmore⟩];rfl
        have hr:r≠[]:=by rintro rfl;simp at hmore
        have hsuf:uD r (t::r):=⟨1,hmore,rfl⟩;have hl1:=hsuf.ok hl;have hc1:=hsuf.cont hcn;rw[aLU pI];show∃l' a' e' es' en' ids',(AS HI (sH x.2.2.1 zD)).bind _=_∧_;rw[aIS,aLP,DM hl,hs1,aLP];rw[hq];by_cases hf1:x.1=1
        · rw[aLQ (aMg hf1),aLQ hf1]
          obtain⟨w8,hw1,hw2,hw3,hw4⟩:=Q1 (c:=(c.1,(c.2.1,(c.2.2.1,(c.2.2.2.1,()))))) (en:=(en.1,())) (p:=(sH x.2.2.1 uE,(([]:pD),(([]:pD),(([]:pE),((sI (tT (sH x.2.2.1 uR))),((max (0:Int) (C0 (sH x.2.2.1 zD))),(([]:List qZ),())))))))) (ids:=tO .str .bool (sH x.2.2.1 uE) true ids) r.length r a1 0 [] [] [] [] [] false false (aMc _) hl1 hc1 rfl rfl (fun _=>⟨by simp,by simp⟩)
          have hins:y7 r a1 0 (c.1,(c.2.1,(c.2.2.1,(c.2.2.2.1,())))) (en.1,()) (sH x.2.2.1 uE,(([]:pD),(([]:pD),(([]:pE),((sI (tT (sH x.2.2.1 uR))),((max (0:Int) (C0 (sH x.2.2.1 zD))),(([]:List qZ),()))))))) (tO .str .bool (sH x.2.2.1 uE) true ids)=some w8:=by
            unfold y7;exact hw1
          unfold t8;rw[hins,aLP,aLP];dsimp only;rw[aLQ (by simp only[aLY,aMh];omega),aLQ (by simp only[aLY,aMh];omega)];refine⟨_,_,_,_,_,_,rfl,hw2.trans hsuf,?_⟩;have hw4':=hw4 rfl;have hdr:((t::r).map er).drop 1=r.map er:=rfl;have hln:((t::r).map er).length=r.length+1:=by simp
          rw[hdr,hln];unfold CN;cases hin:vQ (r.length+1) ([],[],[],[],false,false) (r.map er) with
          |none=>rw[hin] at hw4';exact hw4'
          | some v=>
            rw[hin] at hw4';obtain⟨k1,k2,k3,k4,k5⟩:=hw4';obtain⟨z1,z2,z3,z4,z5⟩:=w8;dsimp only at k1 k2 k3 k4 k5|-;subst k3;refine⟨k1,k2,rfl,by rw[k4],?_,by simp only[aLY];omega⟩;exact aCm hids _ _ rfl
        · rw[aLU (by simpa using hf1),aLU hf1]
          unfold t8;rw[aLP];dsimp only;rw[aLQ (by simp only[aLY,aMh];omega),aLQ (by simp only[aLY,aMh];omega)];refine⟨_,_,_,_,_,_,rfl,hsuf,rfl,rfl,rfl,?_,?_,by simp⟩
          .rw[HO,a5h hcn hr]
          .exact aCm hids _ _ rfl
      · rw[aLQ (by simpa using he1)]
        refine⟨_,_,_,_,_,_,rfl,uD.refl hl,?_⟩;rw[hq0 he1];exact he1
    have hspec: ∀(tw:Bool) (q:Int×Int),zC l a 0 w tw u=q→(tw=false↔x.2.2.2=false∧(c.2.2.2.1.any fun y=>decide (y.1=sH x.2.2.1 uE))=false∧JZ (tT (sH x.2.2.1 uR))=false)→
        (q.2≠0∨(q.2=0∧(xJ c.2.2.2.1 x (l.map er)=((if x.1=1 then vQ (l.map er).length CN ((l.map er).drop 1) else some (CN,(l.map er).drop 1)).map fun r=>((sH x.2.2.1 uE,(r.1.1,(r.1.2.1,(r.1.2.2.1,(sI (tT (sH x.2.2.1 uR)),(max 0 (C0 (sH x.2.2.1 zD)),(r.1.2.2.2.1,()))))))),r.2)))∧(x.1=1∨x.1=2)∧c.2.2.2.1.length≠1000))∧
        (q.2≠0→xJ c.2.2.2.1 x (l.map er)=none):=by
      rintro tw q rfl htw;have hck:=EP (l:=l) a 0 w tw u;constructor
      · by_cases h0:(zC l a 0 w tw u).2=0
        · right
          obtain⟨_,k1,k2,k3⟩:=hck.1 h0;have j1:=hw'.1 k1;have j2:=htw.1 k2;have j3:=hu'.1 k3;refine⟨h0,?_,j1.1,j3.2⟩;unfold xJ;rw[aLQ ⟨j1.1,j1.2.1,h,j1.2.2,j2.1,j2.2.1,j2.2.2,j3.1,j3.2⟩]
        .exact .inl h0
      · intro h0
        unfold xJ;rw[aLU];rintro⟨j1,j2,_,j4,j5,j6,j7,j8,j9⟩;exact h0 (hck.2 ⟨rfl,hw'.2 ⟨j1,j2,j4⟩,htw.2 ⟨j5,j6,j7⟩,hu'.2 ⟨j8,j9⟩⟩)
    by_cases hG:((x.2.2.2||(c.2.2.2.1.any fun y=>decide (y.1=sH x.2.2.1 uE)))==false)=true
    · rw[aLQ hG]
      have hcl:=hclone (sI (tT (sH x.2.2.1 uR))) hS;show∃l' a' e' es' en' ids',(if _→(wY (sI (tT (sH x.2.2.1 uR)))).isSome=true then _ else none)=_∧_;rw[aLQ (fun _=>by rw[hcl];rfl)];show∃l' a' e' es' en' ids',(if _→(val (wY (sI (tT (sH x.2.2.1 uR))))).length≤9223372036854775807 then _ else none)=_∧_;rw[aLQ (fun _=>by rw[hcl];show (sI _).length≤_;omega),B4 hl,aLP]
      have hd:decide ((((List.length (Lib.compact (val (wY (sI (tT (sH x.2.2.1 uR))))))):Nat):Int)<(List.length (sI (tT (sH x.2.2.1 uR))):Int))=JZ (tT (sH x.2.2.1 uR)):=by
        rw[hcl];unfold JZ;exact aNQ.2 (by show ((Lib.compact (sI (tT (sH x.2.2.1 uR)))).length:Int)<_↔_;omega)
      obtain⟨s1,s2⟩:=hspec ((x.2.2.2||(c.2.2.2.1.any fun y=>decide (y.1=sH x.2.2.1 uE)))||JZ (tT (sH x.2.2.1 uR))) _ rfl (by simp only[aMz];exact⟨fun⟨⟨p,q⟩,r⟩=>⟨p,q,r⟩,fun⟨p,q,r⟩=>⟨⟨p,q⟩,r⟩⟩)
      obtain⟨l',a',e',es',en',ids',k1,k2,k3⟩:=tail _ s1 s2;refine⟨l',a',e',es',en',ids',?_,k2,k3⟩;rw[←k1,←hd,←hw,←hu];rfl
    · rw[aLU hG,B4 hl,aLP]
      have hG':(x.2.2.2||(c.2.2.2.1.any fun y=>decide (y.1=sH x.2.2.1 uE)))=true:=(by decide: ∀b:Bool,¬(b==false)=true→b=true) _ hG
      obtain⟨s1,s2⟩:=hspec true _ rfl (by
        constructor
        .intro h;cases h
        .rintro⟨p,q,_⟩;rw[p,q] at hG';cases hG')
      obtain⟨l',a',e',es',en',ids',k1,k2,k3⟩:=tail _ s1 s2;refine⟨l',a',e',es',en',ids',?_,k2,k3⟩;rw[←k1,←hw,←hu];rfl
  ·
    have h':yO x.2.2.1 [uE] [uE,zD,uR]=false:=by simpa using h
    have hno:xJ c.2.2.2.1 x (l.map er)=none:=by
      unfold xJ;rw[aLU (fun hh=>h hh.2.2.1)]
    rw[h',aLU pH] at v1;have hF0:(tT []).length≤4001:=hfl [] pI;have hS0:(sI (tT [])).length≤4001:=by rw[U7];exact hF0
    have hcl:=hclone (sI (tT [])) hS0;rw[v1,aLU pH,v2 h',aLP,a5e pI,aLP];show∃l' a' e' es' en' ids',(if (tT []).length<4611686018427387904 then _ else none)=_∧_;rw[aLQ pG,aLQ (fun _=>by rw[haw];rfl),haw,hno]
    have bad: ∀(w tw u:Bool),w=true→(zC l a 0 w tw u).2≠0:=fun w tw u hw h0=>by
      have:=((EP (l:=l) a 0 w tw u).1 h0).2.1;rw[hw] at this;cases this
    by_cases hG:((x.2.2.2||(rS .str .bool ids ([]:pD)))==false)=true
    · rw[aLQ hG]
      show∃l' a' e' es' en' ids',(if _→(wY (sI (tT []))).isSome=true then _ else none)=_∧_;rw[aLQ (fun _=>by rw[hcl];rfl)];show∃l' a' e' es' en' ids',(if _→(val (wY (sI (tT [])))).length≤9223372036854775807 then _ else none)=_∧_;rw[aLQ (fun _=>by rw[hcl];show (sI _).length≤_;omega),B4 hl,aLP]
      have hb:=bad (((((!decide (x.1=(1:Int)))&&(!decide (x.1=(2:Int))))||(!decide (x.2.1=G3)))||true)||val (some (x.2.2.1.any CM)))
        ((x.2.2.2||(rS .str .bool ids ([]:pD)))||(decide ((((List.length (Lib.compact (val (wY (sI (tT [])))))):Nat):Int)<(List.length (sI (tT [])):Int))))
        ((decide ((20:Int)<(List.length (sI (tT [])):Int)))||(decide ((List.length c.2.2.2.1:Int)=(1000:Int)))) pI
      rw[aLQ]
      .exact⟨_,_,_,_,_,_,rfl,uD.refl hl,hb⟩
      · simp only[aMq,aMH]
        exact hb
    · rw[aLU hG,B4 hl,aLP]
      have hb:=bad (((((!decide (x.1=(1:Int)))&&(!decide (x.1=(2:Int))))||(!decide (x.2.1=G3)))||true)||val (some (x.2.2.1.any CM))) true
        ((decide ((20:Int)<(List.length (sI (tT [])):Int)))||(decide ((List.length c.2.2.2.1:Int)=(1000:Int)))) pI
      rw[aLQ]
      .exact⟨_,_,_,_,_,_,rfl,uD.refl hl,hb⟩
      · simp only[aMq,aMH]
        exact hb
end
end
noncomputable section
theorem aC5:Lib.fields ((yP++[32])++([]:pD))=[yP]:=by kernel_rfl
theorem aC6:Lib.fields yP=[yP]:=by kernel_rfl
abbrev G4:=pE×List sK
def yD:Nat->G4->List TE->Option (G4×List TE)
 |0,_,_=>none
 |n+1,st,L=>
  if (rI (qU L)).2.1=MF/\(rI (qU L)).1≠3 then(match AD (rI (qU L)) st.1 (qU L) with
   |some (cs,r)=>yD n (cs,st.2) r
   |none=>none)
  else if (rI (qU L)).2.1=MG/\(rI (qU L)).1≠3 then(match AE (rI (qU L)) st.2 (qU L) with
   |some (fs,r)=>yD n (st.1,fs) r
   |none=>none)
  else if (rI (qU L)).1=1/\(rI (qU L)).2.1=yC/\(rI (qU L)).2.2.1=[]/\(rI (qU L)).2.2.2=false then some (st,(qU L).drop 1)
  else none
def B7 (L:List TE):Option (pD×G4×List TE):=
 if (rI (qU L)).1=1/\(rI (qU L)).2.1=zU/\yO (rI (qU L)).2.2.1 [yP] [yP]=true/\((rI (qU L)).2.2.1.all fun a=>AX a.2.1)=true/\(rI (qU L)).2.2.2=false then
  (yD (qU L).length ([],[]) ((qU L).drop 1)).map fun r=>(sH (rI (qU L)).2.2.1 yP,r.1,r.2)
 else none
theorem aC7 {l:List t6}(hl:vV l) {x:x5}(hx:rI (l.map er)=x) (h:x.2.1≠[]): ∃t r,l=t::r/\t.1=2:=by
 obtain⟨t,r,rfl⟩:=hl.head;refine⟨t,r,rfl,?_⟩;by_cases h2:t.1=2
 .exact h2
 .have:uV (er t)=eN:=by unfold uV;exact aLU h2
  have hx':uV (er t)=x:=hx;rw[<-hx',this] at h;exact absurd rfl h
theorem aC8 {x:x5}(hx:x.2.2.1.length<=1000000000) {f:Bool×Int->Option ((Bool×Int)⊕Bool)}(hf:f=PP x\/f=PQ x):
  rX f (true,(0:Int))=some (x.2.2.1.all fun a=>AX a.2.1):=by
 have h:=a5f (f:=f) (l:=x.2.2.1) (fun a=>AX a.2.1) (fun i h g=>by
  rcases hf with rfl|rfl
  .unfold PP;dsimp only;rw[aLQ (wJ h),aLQ (uK h),JY h,aB7,aLQ (by exact fun _=>rfl),aLQ (xW pG)];rfl
  .unfold PQ;dsimp only;rw[aLQ (wJ h),aLQ (uK h),JY h,aB7,aLQ (by exact fun _=>rfl),aLQ (xW pG)];rfl) (fun g=>by
  rcases hf with rfl|rfl
  .unfold PP;dsimp only;rw[aLU (y8 _)]
  .unfold PQ;dsimp only;rw[aLU (y8 _)]) x.2.2.1.length 0 true pG
 rw[aNb,Bool.true_and] at h;exact h
section
variable {c:sQ}{en:pM×Unit}{ids:pK}{mm:List (pD×pD)}
abbrev HR:=((List s7)×Int×Int)⊕((List s7)×Int×Int×pD×pE×(List qZ)×pM)
def Q2 (l:List t6) (r:HR):Prop:= ∃l' a' e',uD l' l/\e'≠0/\(r= .inl (l',a',e')\/∃q,r= .inr (l',a',e',q))
theorem Q2.trans {l l2:List t6}{r:HR}(h:Q2 l2 r) (k:uD l2 l):Q2 l r:=by
 obtain⟨l',a',e',h1,h2,h3⟩:=h;exact⟨l',a',e',h1.trans k,h2,h3⟩
theorem aC9 {l:List t6}(hl:vV l) {a e:Int}(he:e≠0) (f:Int) (nm:pD) (at':List qZ) (tw:Bool) (cm:pE) (fd:List sK):
  ∃r,rX (BY c en ids mm) (l,a,e,f,nm,at',tw,cm,fd)=some r/\Q2 l r:=by
 refine⟨.inl (l,a,e),vF ?_,l,a,e,uD.refl hl,he,.inl rfl⟩;unfold BY;dsimp only;rw[aLU (by simpa using he)]
theorem a5i (hen:en.1.length<=1000): ∀(n:Nat) (l:List t6) (a:Int) (f:Int) (nm:pD) (at':List qZ) (tw:Bool) (cm:pE) (fd:List sK),
  l.length<=n->vV l->AF l->cm.length<=20->fd.length<=20->
  ∃r,rX (BY c en ids mm) (l,a,0,f,nm,at',tw,cm,fd)=some r/\(match yD (n+1) (cm,fd) (l.map er) with
   |some (st,q)=> ∃l' a',r= .inr (l',a',0,rS .str .str mm yP,st.1,st.2,en.1++[DN l'])/\l'.map er=q/\uD l' l/\l'.length<l.length
   |none=>Q2 l r)
 |n,l,a,f,nm,at',tw,cm,fd,hn,hl,hcn,hb1,hb2=>by
  have hsk:=HS hl;have hl1:=hsk.ok hl;have hc1:=hsk.cont hcn;have hle1:=hsk.le;have her:=MC l;have hxl:=UG hl1;unfold yD;rw[<-her];generalize hx:rI ((tG l).map er)=x at hxl;have hhd:x.2.1≠[]->(0:Int)=0->∃t r,tG l=t::r/\t.1=2:=fun h _=>aC7 hl1 hx h;have hnp:0<l.length:=aMn.2 hl.ne;obtain⟨n,rfl⟩: ∃k,n=k+1:=⟨n-1,pG⟩;by_cases hkc:x.2.1=MF/\x.1≠3
  .rw[aLQ hkc];obtain⟨l2,a2,e2,cs,h2,p2,m2⟩:=aCW hl1 a 0 (rS .str .str mm yP,(c.2.1,(c.2.2.1,(c.2.2.2.1,())))) (en.1,()) ids x (([]:pD),(([]:pD),(([]:pD),(cm,(([]:pE),((0:Int),(fd,()))))))) (hhd (by rw[hkc.1];decide)) hxl (by dsimp only;omega);have hst:BY c en ids mm (l,a,0,f,nm,at',tw,cm,fd)=some (.inl (l2,a2,e2,x.1,x.2.1,x.2.2.1,x.2.2.2,cs,fd)):=by
    unfold BY;dsimp only;rw[aLQ pH,B5 hl,aLP,aLQ rfl,B6 hl1,aLP,aLQ rfl,hx,aLQ (by simpa using hkc),h2,aLP]
   have m2':=m2 rfl;dsimp only at m2';have hl2:=p2.suf.ok hl1;have hs2:=p2.suf.trans hsk;cases hcm:AD x cm ((tG l).map er) with
   |none=>
    rw[hcm] at m2';obtain⟨r,hr1,hr2⟩:=aC9 (c:=c) (en:=en) (ids:=ids) (mm:=mm) hl2 (a:=a2) m2' x.1 x.2.1 x.2.2.1 x.2.2.2 cs fd;exact⟨r,by rw[vN hst];exact hr1,hr2.trans hs2⟩
   |some cr=>
    obtain⟨cs',r'⟩:=cr;rw[hcm] at m2';obtain⟨k1,k2,k3,k4⟩:=m2';subst k1 k3;have hcs:cs.length<=20:=by
     unfold AD at hcm;split at hcm
     .rename_i hh;obtain⟨q,_,hq⟩:=aLW.1 hcm;have:=aL9 Prod.fst hq;dsimp only at this;rw[<-this,aLT];simp only[aLY,aMh];have:=hh.2.2;omega
     .cases hcm
    obtain⟨r,hr1,hr2⟩:=a5i hen n l2 a2 x.1 x.2.1 x.2.2.1 x.2.2.2 cs fd pG hl2 (p2.suf.cont hc1) hcs hb2;refine⟨r,by rw[vN hst];exact hr1,?_⟩;rw[k2] at hr2;dsimp only;cases hin:yD (n+1) (cs,fd) r' with
    |none=>rw[hin] at hr2;exact hr2.trans hs2
    |some w=>
     rw[hin] at hr2;obtain⟨l',a',q1,q2,q3,q4⟩:=hr2;exact⟨l',a',q1,q2,q3.trans hs2,pG⟩
  .rw[aLU hkc];by_cases hkf:x.2.1=MG/\x.1≠3
   .rw[aLQ hkf];obtain⟨l2,a2,e2,fs,h2,p2,m2⟩:=aCY hl1 a 0 (rS .str .str mm yP,(c.2.1,(c.2.2.1,(c.2.2.2.1,())))) (en.1,()) ids x (([]:pD),(([]:pD),(([]:pD),(cm,(([]:pE),((0:Int),(fd,()))))))) (hhd (by rw[hkf.1];decide)) hxl (by dsimp only;omega);have hst:BY c en ids mm (l,a,0,f,nm,at',tw,cm,fd)=some (.inl (l2,a2,e2,x.1,x.2.1,x.2.2.1,x.2.2.2,cm,fs)):=by
     unfold BY;dsimp only;rw[aLQ pH,B5 hl,aLP,aLQ rfl,B6 hl1,aLP,aLQ rfl,hx,aLU (by simpa using hkc),aLQ (by simpa using hkf),h2,aLP]
    have m2':=m2 rfl;dsimp only at m2';have hl2:=p2.suf.ok hl1;have hs2:=p2.suf.trans hsk;cases hcm:AE x fd ((tG l).map er) with
    |none=>
     rw[hcm] at m2';obtain⟨r,hr1,hr2⟩:=aC9 (c:=c) (en:=en) (ids:=ids) (mm:=mm) hl2 (a:=a2) m2' x.1 x.2.1 x.2.2.1 x.2.2.2 cm fs;exact⟨r,by rw[vN hst];exact hr1,hr2.trans hs2⟩
    |some cr=>
     obtain⟨fs',r'⟩:=cr;rw[hcm] at m2';obtain⟨k1,k2,k3,k4⟩:=m2';subst k1 k3;have hcs:fs.length<=20:=by
      unfold AE at hcm;split at hcm
      .rename_i hh;obtain⟨q,_,hq⟩:=aLW.1 hcm;have:=aL9 Prod.fst hq;dsimp only at this;rw[<-this];have h3:=aCe fd (sH x.2.2.1 x6) q.1;have:=hh.2.2.2.2;omega
      .cases hcm
     obtain⟨r,hr1,hr2⟩:=a5i hen n l2 a2 x.1 x.2.1 x.2.2.1 x.2.2.2 cm fs pG hl2 (p2.suf.cont hc1) hb1 hcs;refine⟨r,by rw[vN hst];exact hr1,?_⟩;rw[k2] at hr2;dsimp only;cases hin:yD (n+1) (cm,fs) r' with
     |none=>rw[hin] at hr2;exact hr2.trans hs2
     |some w=>
      rw[hin] at hr2;obtain⟨l',a',q1,q2,q3,q4⟩:=hr2;exact⟨l',a',q1,q2,q3.trans hs2,pG⟩
   .rw[aLU hkf];obtain⟨v1,v2⟩:=ME x [] [] hxl pH pH pH pH (by rw[MH];decide) (by rw[MI];decide);rw[MH,MI,a5g] at v1 v2;obtain⟨o,ho⟩: ∃o:Bool,o=decide (x.2.2.1=[]):=⟨_,rfl⟩;have hck:=EP (l:=tG l) a 0 (((!decide (x.1=(1:Int)))||(!decide (x.2.1=yC)))||(!o)) x.2.2.2 false
    generalize hq:zC (tG l) a 0 (((!decide (x.1=(1:Int)))||(!decide (x.2.1=yC)))||(!o)) x.2.2.2 false=q at hck
    obtain⟨a1,e1⟩:=q;dsimp only at hck;have hst:BY c en ids mm (l,a,0,f,nm,at',tw,cm,fd)=some (.inr (.inr (w3 (tG l) e1,a1,e1,rS .str .str mm yP,cm,fd,en.1++[(qW (.pair (.int .i64) (.pair .str (.pair (.int .i64) .unit))) (tG l) 0).2.2.1+((qW (.pair (.int .i64) (.pair .str (.pair (.int .i64) .unit))) (tG l) 0).2.1.length:Int)]))):=by
     unfold BY;dsimp only;rw[aLQ pH,B5 hl,aLP,aLQ rfl,B6 hl1,aLP,aLQ rfl,hx,aLU (by simpa using hkc),aLU (by simpa using hkf)];cases o with
     |true=>
      rw[<-ho,aLQ rfl] at v1;simp only[Bool.not_true,Bool.or_false] at hq;rw[v1,aLQ pV,aLP,B4 hl1,hq,aLP];dsimp only;rw[DM hl1,aLP,aLQ (by simp only[aLY,aMh];omega)]
     |false=>
      rw[<-ho,aLU pH] at v1;simp only[Bool.not_false] at hq;rw[v1,aLU pH,v2 ho.symm,aLP,B4 hl1,hq,aLP];dsimp only;rw[DM hl1,aLP,aLQ (by simp only[aLY,aMh];omega)]
    refine⟨_,vF hst,?_⟩;have hs2:=(HP hl1 e1).trans hsk;by_cases hok:x.1=1/\x.2.1=yC/\x.2.2.1=[]/\x.2.2.2=false
    .rw[aLQ hok];have he1:e1=0:=hck.2 ⟨rfl,by rw[ho,aMg hok.1,aMg hok.2.1,aMg hok.2.2.1];rfl,hok.2.2.2,rfl⟩;subst he1;obtain⟨t,r,hlr,ht⟩:=hhd (by rw[hok.2.1];decide) rfl;rw[hlr] at hl1 hc1 hs2 hle1|-;have hmore:=hl1.more (.inl ht);have hs1:w3 (t::r) 0=r:=by
      unfold w3;rw[aLQ ⟨rfl,hmore⟩];rfl
     have hr:r≠[]:=by rintro rfl;simp at hmore
     rw[hs1] at hs2|-;refine⟨r,a1,?_,rfl,hs2,by simp only[aLY] at hle1;omega⟩;rw[HO,a5h hc1 hr]
    .rw[aLU hok];refine⟨_,_,_,hs2,fun h0=>hok ?_,.inr ⟨_,rfl⟩⟩;obtain⟨_,k1,k2,_⟩:=hck.1 h0;rw[ho] at k1;simp only[aMz,aM1,aMj] at k1;exact⟨k1.1.1,k1.1.2,k1.2,k2⟩
end
abbrev c0:sQ:=(([]:pD),(([]:pE),(([]:List qZ),(([]:List rW),()))))
theorem aI0 {l:List t6}(hl:vV l) (hcn:AF l): ∃l' a' e' tag cms fds en',AU l 0 0 c0 ([],()) []=some (l',a',e',tag,cms,fds,en')/\uD l' l/\(match B7 (l.map er) with
  |some (tg,st,q)=>e'=0/\l'.map er=q/\tag=tg/\cms=st.1/\fds=st.2/\en'=[DN l']/\l'.length<l.length
  |none=>e'≠0):=by
 have hsk:=HS hl;have hl1:=hsk.ok hl;have hc1:=hsk.cont hcn;have hle1:=hsk.le;have her:=MC l;have hxl:=UG hl1;unfold B7 AU;rw[B5 hl,aLP,aLQ rfl,B6 hl1,aLP,aLQ rfl,<-her];generalize hx:rI ((tG l).map er)=x at hxl;obtain⟨v1,v2⟩:=ME x yP [] hxl pH pH pH pH (by rw[aC5];decide) (by rw[aC6];decide);rw[aC5,aC6] at v1 v2;by_cases h:yO x.2.2.1 [yP] [yP]=true
 .rw[h,aLQ rfl] at v1;rw[v1,aLQ pV,aLP,aC8 hxl (.inl rfl)];unfold t8;rw[aLP,B4 hl1,aLP];have hck:=EP (l:=tG l) 0 0 (((!decide (x.1=(1:Int)))||(!decide (x.2.1=zU)))||(!(x.2.2.1.all fun a=>AX a.2.1))) x.2.2.2 false
  dsimp only;generalize zC (tG l) 0 0 (((!decide (x.1=(1:Int)))||(!decide (x.2.1=zU)))||(!(x.2.2.1.all fun a=>AX a.2.1))) x.2.2.2 false=q at hck|-
  obtain⟨a1,e1⟩:=q;dsimp only at hck|-;rw[DM hl1,aLP];have hs1:=HP hl1 e1;have hl2:=hs1.ok hl1;by_cases he1:e1=0
  .subst he1;obtain⟨_,k1,k2,_⟩:=hck.1 rfl;simp only[aMz,aM1,aMj] at k1;rw[aLQ ⟨k1.1.1,k1.1.2,h,k1.2,k2⟩];obtain⟨t,r,hlr,ht⟩:=aC7 hl1 hx (by rw[k1.1.2];decide);have hmore:1<(t::r).length:=by rw[hlr] at hl1;exact hl1.more (.inl ht)
   have hst:w3 (tG l) 0=r:=by
    unfold w3;rw[hlr,aLQ ⟨rfl,hmore⟩];rfl
   rw[hst] at hs1 hl2|-;obtain⟨w,hw1,hw2⟩:=a5i (c:=c0) (en:=([],())) (ids:=[]) (mm:=EQ x.2.2.1) pI r.length r a1 x.1 x.2.1 x.2.2.1 x.2.2.2 [] [] (aMc _) hl2 (hs1.cont hc1) pI pI;have hlen:((tG l).map er).length=r.length+1:=by rw[hlr];simp
   have hdr:((tG l).map er).drop 1=r.map er:=by rw[hlr];rfl
   rw[hlen,hdr,hw1];cases hin:yD (r.length+1) ([],[]) (r.map er) with
   |none=>
    rw[hin] at hw2;obtain⟨l',a',e',q1,q2,q3|⟨z,q3⟩⟩:=hw2
    .subst q3;exact⟨_,_,_,_,_,_,_,rfl,(q1.trans hs1).trans hsk,q2⟩
    .subst q3;obtain⟨z1,z2,z3,z4⟩:=z;exact⟨_,_,_,_,_,_,_,rfl,(q1.trans hs1).trans hsk,q2⟩
   |some v=>
    obtain⟨st,q⟩:=v;rw[hin] at hw2;obtain⟨l',a',q1,q2,q3,q4⟩:=hw2;subst q1;refine⟨_,_,_,_,_,_,_,rfl,(q3.trans hs1).trans hsk,rfl,q2,Q0 _ _,rfl,rfl,rfl,?_⟩;have:=hs1.le;omega
  .have hst:BY c0 ([],()) [] (EQ x.2.2.1) (w3 (tG l) e1,a1,e1,x.1,x.2.1,x.2.2.1,x.2.2.2,[],[])=some (.inr (.inl (w3 (tG l) e1,a1,e1))):=by
    unfold BY;dsimp only;rw[aLU (by simpa using he1)]
   rw[vF hst,aLU]
   .exact⟨_,_,_,_,_,_,_,rfl,hs1.trans hsk,he1⟩
   .rintro⟨k1,k2,_,k4,k5⟩;exact he1 (hck.2 ⟨rfl,by rw[aMg k1,aMg k2,k4];rfl,k5,rfl⟩)
 .have h':yO x.2.2.1 [yP] [yP]=false:=by simpa using h
  rw[h',aLU pH] at v1;rw[v1,aLU pH,v2 h',aLP,aC8 hxl (.inr rfl)];unfold t8;rw[aLP,B4 hl1,aLP];have hck:=EP (l:=tG l) 0 0 ((((!decide (x.1=(1:Int)))||(!decide (x.2.1=zU)))||true)||(!(x.2.2.1.all fun a=>AX a.2.1))) x.2.2.2 false
  dsimp only;generalize zC (tG l) 0 0 ((((!decide (x.1=(1:Int)))||(!decide (x.2.1=zU)))||true)||(!(x.2.2.1.all fun a=>AX a.2.1))) x.2.2.2 false=q at hck|-
  obtain⟨a1,e1⟩:=q;dsimp only at hck|-;have he1:e1≠0:=fun h0=>by
   have:=(hck.1 h0).2.1;simp at this
  rw[DM hl1,aLP];have hst:U1 c0 ([],()) [] (w3 (tG l) e1,a1,e1,x.1,x.2.1,x.2.2.1,x.2.2.2,[],[])=some (.inr (.inl (w3 (tG l) e1,a1,e1))):=by
   unfold U1;dsimp only;rw[aLU (by simpa using he1)]
  rw[vF hst,aLU (fun hh=>h hh.2.2.1)];exact⟨_,_,_,_,_,_,_,rfl,(HP hl1 e1).trans hsk,he1⟩
end
noncomputable section
def G5:Nat→pD→List TE
  |0,_=>[]
  |n+1,s=>if s=[] then[(4,[])] else rM s::(if (rM s).1=0 then[] else G5 n (s.drop (rM s).2.length))
def sP (s:pD):List TE:=G5 (s.length+1) s
theorem aDa (s:pD): ∀(n i:Nat),(wD s n i).map er=G5 n (s.drop i)
  |0,i=>rfl
  | n+1,i=>by
    unfold wD G5;by_cases h:i<s.length
    · have hne:s.drop i≠[]:=by
        intro e;have:=aL9 List.length e;rw[aL8,aMh] at this;omega
      rw[aLQ h,aLU hne,aMQ];show rM (s.drop i)::_=_;congr 1;split
      .rfl
      .rw[aDa s n,aNN]
    · have hnil:s.drop i=[]:=List.drop_eq_nil_of_le pG
      rw[aLU h,aLQ hnil];rfl
theorem aDb (s:pD):(vI s).map er=sP s:=by
  have:=aDa s (s.length+1) 0;rw[aNb] at this;exact this
theorem K0 {s:pD}(hs:s≠[]):(rM s).2.length≤s.length∧((rM s).1≠0→0<(rM s).2.length)∧((rM s).1=2→2≤(rM s).2.length)∧((rM s).1=0∨(rM s).1=1∨(rM s).1=2∨(rM s).1=3):=by
  have hle:=ZH s hs;have hpos:0<s.length:=aMn.2 hs;unfold rM;split
  .exact⟨by simp,fun h=>absurd rfl h,fun h=>by simp at h,.inl rfl⟩
  · rename_i h0
    rw[aMd];refine⟨pG,fun _=>by omega,fun h2=> ?_,?_⟩
    · dsimp only at h2|-
      have hfn:(vH s).2=A8 s+1∧s.head? =some 60:=by
        unfold vH at h2 h0|-;split at h2
        .simp at h2
        · rename_i hn
          rw[aLU hn] at h0|-;split at h2
          · rename_i h60
            rw[aLQ h60] at h0|-;dsimp only at h0|-;split at h0
            .exact absurd pH h0
            · rename_i hz
              rw[aLU hz];exact⟨rfl,h60⟩
          .simp at h2
      have hc:A8 s≠0:=by
        cases s with
        |nil=>exact absurd rfl hs
        | cons b r=>
          have hb:b=60:=by simpa using hfn.2
          subst hb;unfold A8 clo;rw[aLU pH,aLU pH];cases clo false r with
          |none=>decide
          |some k=>show ((k+1:Nat):Int)≠0;omega
      have:=ZG s;rw[hfn.1];rw[hfn.1] at h0;omega
    · unfold vH
      split
      .exact .inr (.inl rfl)
      · split
        .exact .inr (.inr (.inl rfl))
        .exact .inr (.inr (.inr rfl))
theorem a5j {s:pD}{n i:Nat}(hn:s.length<n+i) (hi:i≤s.length): ∃t r,wD s n i=t::r∧t.2.2.1=(i:Int):=by
  cases n with
  |zero=>omega
  | succ n=>
    unfold wD;split
    .exact⟨_,_,rfl,rfl⟩
    .exact⟨_,_,rfl,by show (s.length:Int)=i;omega⟩
theorem a5k (s:pD) (hs:s.length≤900000000): ∀(n i:Nat),s.length<n+i→i≤s.length→
    (∀t∈wD s n i,t.2.1.length≤s.length∧(i:Int)≤t.2.2.1∧t.2.2.1≤s.length∧(t.1=2→2≤t.2.1.length))∧(∀t,(wD s n i).getLast? =some t→t.1=0∨t.1=4)∧(wD s n i).length≤s.length-i+1∧AF (wD s n i)
  |0,i,hn,hi=>by omega
  | n+1,i,hn,hi=>by
    by_cases h:i<s.length
    · have hne:s.drop i≠[]:=by
        intro e;have:=aL9 List.length e;rw[aL8,aMh] at this;omega
      obtain⟨f1,f2,f3,f4⟩:=K0 hne;rw[aL8] at f1;have hu:wD s (n+1) i=((rM (s.drop i)).1,(rM (s.drop i)).2,(i:Int),())::(if (rM (s.drop i)).1=0 then[] else wD s n (i+(rM (s.drop i)).2.length)):=by rw[wD,aLQ h]
      rw[hu];by_cases h0:(rM (s.drop i)).1=0
      · rw[aLQ h0]
        refine⟨fun t ht=> ?_,fun t ht=> ?_,by simp,fun j hj=>by simp at hj⟩
        · rw[aL6.1 ht]
          exact⟨by dsimp only;omega,by dsimp only;omega,by dsimp only;omega,fun h2=>f3 h2⟩
        · left
          simp only[List.getLast?_singleton,aLO] at ht;rw[←ht];exact h0
      · rw[aLU h0]
        have hp:=f2 h0;obtain⟨g1,g2,g3,g4⟩:=a5k s hs n (i+(rM (s.drop i)).2.length) pG pG;obtain⟨t0,r0,e0,e1⟩:=a5j (s:=s) (n:=n) (i:=i+(rM (s.drop i)).2.length) pG pG;refine⟨fun t ht=> ?_,fun t ht=> ?_,?_,fun j hj=> ?_⟩
        · rcases aL3.1 ht with rfl|ht
          .exact⟨by dsimp only;omega,by dsimp only;omega,by dsimp only;omega,fun h2=>f3 h2⟩
          · obtain⟨k1,k2,k3,k4⟩:=g1 t ht
            exact⟨k1,pG,k3,k4⟩
        · rw[e0] at ht g2
          rw[List.getLast?_cons_cons] at ht;exact g2 t ht
        .simp only[aLY];omega
        · cases j with
          | zero=>
            simp only[e0,List.getElem_cons_zero,List.getElem_cons_succ];rw[e1];simp
          | succ j=>
            simp only[aLY] at hj;simp only[List.getElem_cons_succ];exact g4 j pG
    · have hi':i=s.length:=by omega
      have hu:wD s (n+1) i=[(4,[],(s.length:Int),())]:=by rw[wD,aLU h]
      rw[hu];refine⟨fun t ht=> ?_,fun t ht=> ?_,by simp,fun j hj=>by simp at hj⟩
      · rw[aL6.1 ht]
        exact⟨by simp,by show (i:Int)≤s.length;omega,aM5 _,fun h2=>by simp at h2⟩
      · right
        simp only[List.getLast?_singleton,aLO] at ht;rw[←ht]
theorem aDc {s:pD}(hs:s.length≤900000000):vV (vI s)∧AF (vI s):=by
  obtain⟨g1,g2,g3,g4⟩:=a5k s hs (s.length+1) 0 pG (aMR _);obtain⟨t,r,e,_⟩:=a5j (s:=s) (n:=s.length+1) (i:=0) pG (aMR _);refine⟨⟨?_,fun t ht=> ?_,fun t ht=> ?_,fun t ht=>(g1 t ht).2.2.2,g2,?_⟩,g4⟩
  · show wD s (s.length+1) 0≠[]
    rw[e];simp
  .have:=(g1 t ht).1;omega
  · obtain⟨_,h2,h3,_⟩:=g1 t ht
    exact⟨h2,pG⟩
  · show (wD s (s.length+1) 0).length≤_
    omega
theorem aI1 {s:pD}(hs:s.length≤900000000):Gs.slices_Collect_elements_token_elements_tokensF1 s=some (vI s):=by
  obtain⟨_,_,g3,_⟩:=a5k s hs (s.length+1) 0 pG (aMR _)
  have go: ∀(l b:List t6),(b.length+l.length)*32≤140737488355328→xF (Gs.slices_AppendSeq_elements_token_elements_tokensF1_step1) l b=some (.inl (b++l)):=by
    intro l
    induction l with
    |nil=>intro b _;simp [xF]
    | cons t l ih=>
      intro b hb;simp only[aLY] at hb;unfold xF
      have:Gs.slices_AppendSeq_elements_token_elements_tokensF1_step1 t b=some (.inl (b++[t])):=by
        unfold Gs.slices_AppendSeq_elements_token_elements_tokensF1_step1;rw[aLQ (by simp only[aLY,aMh];omega)]
      rw[this,aLP];show xF _ l (b++[t])=_;rw[ih (b++[t]) (by rw[aLT];simp only[aLY,aMh];omega)];simp
  unfold Gs.slices_Collect_elements_token_elements_tokensF1 Gs.slices_AppendSeq_elements_token_elements_tokensF1;rw[aLQ pG,go (vI s) [] (by show (0+(wD s (s.length+1) 0).length)*32≤_;omega)];rfl
def DO:Nat→List rW→pQ→List TE→Option (List rW×pQ×List TE)
  |0,_,_,_=>none
  | n+1,es,ks,L=>if (rI (qU L)).1=3 then some (es,ks,qU L) else
    match xJ es (rI (qU L)) (qU L) with
    |some (y,r)=>DO n (es++[y]) (ks++[r.length]) r
    |none=>none
def B8 (L:List TE):Option (sQ×pQ):=
  match B7 L with
  |none=>none
  | some (tag,st,r)=>match DO (r.length+1) [] [r.length] r with
    |none=>none
    | some (es,ks,r1)=>match uC yC r1 with
      |none=>none
      | some r2=>match uC zU (qU r2) with
        |none=>none
        |some r3=>if (qU r3).head?.map (·.1)=some 4 then some ((tag,(st.1,(st.2,(es,())))),ks) else none
def yE (T:List t6) (k:Nat):Int:=DN (T.drop (T.length-k))
theorem aDd {T l:List t6}(h:uD l T):yE T l.length=DN l:=by
  obtain⟨k,hk,rfl⟩:=h;unfold yE;rw[aL8,show T.length- (T.length-k)=k by omega]
theorem aI2 {es:List rW}{x:x5}{L:List TE}{y:rW}{r:List TE}(h:xJ es x L=some (y,r)):es.length≠1000:=by
  unfold xJ at h;split at h
  .rename_i hh;exact hh.2.2.2.2.2.2.2.2
  .cases h
section
variable {T:List t6}(hT:vV T) (hTc:AF T) {rr:(List s7)×Int×Int×pD×pE×(List qZ)×pM}
include hT hTc
theorem aDe: ∀(n:Nat) (l:List t6) (a:Int) (es:List rW) (ks:pQ) (ids:pK),l.length≤n→uD l T→es.length≤1000→ks.length=es.length+1→MA ids es→
    ∃ l' a' e' es' en' ids',rX (DI rr) (l,a,0,es,ks.map (yE T),ids)=some (l',a',e',es',en',ids')∧uD l' T∧(match DO (n+1) es ks (l.map er) with
      |some (es2,ks2,q)=>e'=0∧es'=es2∧en'=ks2.map (yE T)∧l'.map er=q
      |none=>e'≠0)
  | n,l,a,es,ks,ids,hn,hsT,he,hk,hid=>by
    have hl:=hsT.ok hT;have hcn:=hsT.cont hTc;have hsk:=HS hl;have hl1:=hsk.ok hl;have hc1:=hsk.cont hcn;have hle1:=hsk.le;have her:=MC l;have hnp:0<l.length:=aMn.2 hl.ne;obtain⟨n,rfl⟩: ∃k,n=k+1:=⟨n-1,pG⟩;unfold DO;rw[←her];by_cases h3:(rI ((tG l).map er)).1=3
    · have hst:DI rr (l,a,0,es,ks.map (yE T),ids)=some (.inr (tG l,a,0,es,ks.map (yE T),ids)):=by
        unfold DI;dsimp only;rw[aLQ pH,B5 hl,aLP,aLQ rfl,B6 hl1,aLP,aLQ rfl,aLQ (aMg h3)]
      rw[aLQ h3];exact⟨_,_,_,_,_,_,vF hst,hsk.trans hsT,rfl,rfl,rfl,rfl⟩
    · obtain⟨l2,a2,e2,es2,en2,ids2,h2,s2,m2⟩:=aIZ hl1 hc1 a (rr.2.2.2.1,(rr.2.2.2.2.1,(rr.2.2.2.2.2.1,(es,())))) (ks.map (yE T),()) ids hid he (by dsimp only;rw[aMM];omega)
      have hst:DI rr (l,a,0,es,ks.map (yE T),ids)=some (.inl (l2,a2,e2,es2,en2,ids2)):=by
        unfold DI;dsimp only;rw[aLQ pH,B5 hl,aLP,aLQ rfl,B6 hl1,aLP,aLQ rfl,aLU (by simpa using h3),h2,aLP]
      have hs2:=(s2.trans hsk).trans hsT;rw[aLU h3];cases hx:xJ es (rI ((tG l).map er)) ((tG l).map er) with
      | none=>
        rw[hx] at m2;dsimp only at m2
        have hst2:DI rr (l2,a2,e2,es2,en2,ids2)=some (.inr (l2,a2,e2,es2,en2,ids2)):=by
          unfold DI;dsimp only;rw[aLU (by simpa using m2)]
        exact⟨_,_,_,_,_,_,by rw[vN hst,vF hst2],hs2,m2⟩
      | some v=>
        obtain⟨y,r⟩:=v;rw[hx] at m2;obtain⟨k1,k2,k3,k4,k5,k6⟩:=m2;dsimp only at k3 k4|-;subst k1 k3;have hlen:r.length=l2.length:=by rw[←k2,aMM]
        have hen:en2=(ks++[r.length]).map (yE T):=by
          rw[k4,List.map_append,hlen];show _=_++[yE T l2.length];rw[aDd hs2]
        subst hen;have h1000:=aI2 hx;obtain⟨l',a',e',es',en',ids',q1,q2,q3⟩:=aDe n l2 a2 (es++[y]) (ks++[r.length]) ids2 pG hs2 (by rw[aLT];simp only[aLY,aMh];omega) (by rw[aLT,aLT,hk];rfl) k5;rw[k2] at q3;exact⟨l',a',e',es',en',ids',by rw[vN hst];exact q1,q2,q3⟩
end
theorem aI3 {l:List t6}(hl:vV l):((qU (l.map er)).head?.map (·.1)=some 4)↔(qW (.pair (.int .i64) (.pair .str (.pair (.int .i64) .unit))) (tG l) 0).1=4:=by
  obtain⟨t,r,h⟩:=((HS hl).ok hl).head;rw[←MC,h];show (some t.1=some 4)↔t.1=4;simp
def G6 (L:List TE):Bool:=match uC yC L with
  |none=>false
  | some r2=>match uC zU (qU r2) with
    |none=>false
    |some r3=>decide ((qU r3).head?.map (·.1)=some 4)
theorem a5l {L:List TE}(h:uC yC L=none):G6 L=false:=by unfold G6;rw[h]
theorem a5m {L r2:List TE}(h:uC yC L=some r2) (h2:uC zU (qU r2)=none):G6 L=false:=by
  unfold G6;rw[h];dsimp only;rw[h2]
theorem Q3 {L r2 r3:List TE}(h:uC yC L=some r2) (h2:uC zU (qU r2)=some r3):G6 L=decide ((qU r3).head?.map (·.1)=some 4):=by
  unfold G6;rw[h];dsimp only;rw[h2]
theorem aDf {s:pD}(hs:s.length≤900000000): ∃r,xV s=some r∧(match B8 (sP s) with
    |some (c,ks)=>r.2.2.1=0∧(r.2.2.2.1,(r.2.2.2.2.1,(r.2.2.2.2.2.1,(r.2.2.2.2.2.2.1,()))))=c∧r.2.2.2.2.2.2.2.1=ks.map (yE (vI s))
    |none=>r.2.2.1≠0):=by
  obtain⟨hT,hTc⟩:=aDc hs;obtain⟨l1,a1,e1,tag,cms,fds,en1,h1,s1,m1⟩:=aI0 hT hTc;unfold xV;rw[aI1 hs,aLP,h1,aLP];rw[aDb] at m1;unfold B8;have hl1:=s1.ok hT;dsimp only
  have tail: ∀(l:List t6) (a e:Int) (es:List rW) (en:pM) (ids:pK),uD l (vI s)→∃r:((List s7)×Int×Int×pD×pE×(List qZ)×(List rW)×pM×pK),
      ((AB l a e (tag,(cms,(fds,(es,())))) (en,()) ([101,110,116,114,105,101,115]:pD) ids).bind fun O=>
 t8 (σ:=(List s7)) (
   if (decide (O.2.2=(0:Int)))=true then
    (zA O.1 O.2.1 O.2.2 (tag,(cms,(fds,(es,())))) (en,()) ids).bind fun Z=>
    some (Z)
   else
    some (O.1)
  ) fun aA=>
 (AB aA O.2.1 O.2.2 (tag,(cms,(fds,(es,())))) (en,()) ([99,97,116,97,108,111,103]:pD) ids).bind fun aB=>
 t8 (σ:=(List s7)) (
   if (decide (aB.2.2=(0:Int)))=true then
    (zA aB.1 aB.2.1 aB.2.2 (tag,(cms,(fds,(es,())))) (en,()) ids).bind fun aC=>
    some (aC)
   else
    some (aB.1)
  ) fun aD=>
 if 0≤(0:Int)∧(0:Int)<(List.length aD:Int) then
  if (!decide ((qW (.pair (.int .i64) (.pair .str (.pair (.int .i64) .unit))) aD (0:Int)).1=(4:Int)))=true then
   (yJ aD aB.2.1 aB.2.2 (tag,(cms,(fds,(es,())))) (en,()) (3:Int) ids).bind fun aE=>
   some ((aD,aE.1,aE.2,tag,cms,fds,es,en,ids))
  else
   some ((aD,aB.2.1,aB.2.2,tag,cms,fds,es,en,ids))
 else none)=some r∧(e≠0→r.2.2.1≠0)∧(r.2.2.2.1,(r.2.2.2.2.1,(r.2.2.2.2.2.1,(r.2.2.2.2.2.2.1,()))))=(tag,(cms,(fds,(es,()))))∧r.2.2.2.2.2.2.2.1=en∧
      (e=0→if G6 (l.map er)=true then r.2.2.1=0 else r.2.2.1≠0):=by
    intro l a e es en ids hls;have hl:=hls.ok hT;obtain⟨l2,a2,e2,h2,p2,m2⟩:=MD hl a e (tag,(cms,(fds,(es,())))) (en,()) ids yC;have hl2:=p2.suf.ok hl;rw[h2,aLP];dsimp only
    obtain⟨l3,h3,s3,m3⟩: ∃l3:List t6,(if (decide (e2=(0:Int)))=true then
      (zA l2 a2 e2 (tag,(cms,(fds,(es,())))) (en,()) ids).bind fun Z=>some (Z)
     else some l2)=some l3∧uD l3 l2∧(e2=0→l3=tG l2):=by
      by_cases h0:e2=0
      · rw[aLQ (aMg h0),B5 hl2,aLQ h0]
        exact⟨_,rfl,HS hl2,fun _=>rfl⟩
      · rw[aLU (by simpa using h0)]
        exact⟨_,rfl,uD.refl hl2,fun h=>absurd h h0⟩
    unfold t8;rw[h3,aLP];have hl3:=s3.ok hl2;obtain⟨l4,a4,e4,h4,p4,m4⟩:=MD hl3 a2 e2 (tag,(cms,(fds,(es,())))) (en,()) ids zU;have hl4:=p4.suf.ok hl3;rw[h4,aLP];dsimp only
    obtain⟨l5,h5,s5,m5⟩: ∃l5:List t6,(if (decide (e4=(0:Int)))=true then
      (zA l4 a4 e4 (tag,(cms,(fds,(es,())))) (en,()) ids).bind fun aC=>some (aC)
     else some l4)=some l5∧uD l5 l4∧(e4=0→l5=tG l4):=by
      by_cases h0:e4=0
      · rw[aLQ (aMg h0),B5 hl4,aLQ h0]
        exact⟨_,rfl,HS hl4,fun _=>rfl⟩
      · rw[aLU (by simpa using h0)]
        exact⟨_,rfl,uD.refl hl4,fun h=>absurd h h0⟩
    rw[h5,aLP];have hl5:=s5.ok hl4;have hpos5:0≤(0:Int)∧(0:Int)<(l5.length:Int):=⟨aM5 _,by have:=aMn.2 hl5.ne;omega⟩;rw[aLQ hpos5];obtain⟨q,hq1,hq2,hq3⟩: ∃q:Int×Int,(if (!decide ((qW (.pair (.int .i64) (.pair .str (.pair (.int .i64) .unit))) l5 (0:Int)).1=(4:Int)))=true then
   (yJ l5 a4 e4 (tag,(cms,(fds,(es,())))) (en,()) (3:Int) ids).bind fun aE=>
   some ((l5,aE.1,aE.2,tag,cms,fds,es,en,ids))
  else
   some ((l5,a4,e4,tag,cms,fds,es,en,ids)))=some (l5,q.1,q.2,tag,cms,fds,es,en,ids)∧(e4≠0→q.2≠0)∧(e4=0→if (qW (.pair (.int .i64) (.pair .str (.pair (.int .i64) .unit))) l5 0).1=4 then q.2=0 else q.2≠0):=by
      by_cases h44:(qW (.pair (.int .i64) (.pair .str (.pair (.int .i64) .unit))) l5 0).1=4
      · rw[aLU (by simp [h44])]
        exact⟨(a4,e4),rfl,id,fun h=>by rw[aLQ h44];exact h⟩
      · rw[aLQ (by simpa using h44),HQ hl5]
        exact⟨CL l5 a4 e4 3,rfl,fun _=>EO _ _ pH,fun _=>by rw[aLU h44];exact EO _ _ pH⟩
    rw[hq1];refine⟨_,rfl,fun he=>hq2 (p4.bad (p2.bad he)),rfl,rfl,fun he=> ?_⟩;have m2':=m2 he;cases hn1:uC yC (l.map er) with
    | none=>
      rw[hn1] at m2';rw[a5l hn1,aLU pH];exact hq2 (p4.bad m2')
    | some r2=>
      rw[hn1] at m2';obtain⟨k1,k2⟩:=m2';have m4':=m4 k1;rw[m3 k1,MC,k2] at m4';cases hn2:uC zU (qU r2) with
      | none=>
        rw[hn2] at m4';rw[a5m hn1 hn2,aLU pH];exact hq2 m4'
      | some r3=>
        rw[hn2] at m4';obtain⟨j1,j2⟩:=m4';have hq3':=hq3 j1;rw[m5 j1] at hq3';have h44:=aI3 hl4;rw[j2] at h44;rw[Q3 hn1 hn2];by_cases hd:(qU r3).head?.map (·.1)=some 4
        · rw[aLQ (aMg hd)]
          rw[aLQ (h44.1 hd)] at hq3';exact hq3'
        · rw[aLU (by simpa using hd)]
          rw[aLU (fun h=>hd (h44.2 h))] at hq3';exact hq3'
  cases hh:B7 (sP s) with
  | none=>
    rw[hh] at m1;dsimp only at m1
    have hst:DI (l1,a1,e1,tag,cms,fds,en1) (l1,a1,e1,[],en1,[])=some (.inr (l1,a1,e1,[],en1,[])):=by
      unfold DI;dsimp only;rw[aLU (by simpa using m1)]
    rw[vF hst];obtain⟨r,t1,t2,_⟩:=tail l1 a1 e1 [] en1 [] s1;refine⟨r,?_,t2 m1⟩;unfold t8 at t1|-;rw[aLP];exact t1
  | some v=>
    obtain⟨tg,st,q⟩:=v;rw[hh] at m1;obtain⟨k1,k2,k3,k4,k5,k6,k7⟩:=m1;dsimp only;subst k1 k3 k4 k5;have hqlen:q.length=l1.length:=by rw[←k2,aMM]
    have hen:en1=[q.length].map (yE (vI s)):=by
      rw[k6,hqlen];show _=[yE (vI s) l1.length];rw[aDd s1]
    subst hen;obtain⟨l',a',e',es',en',ids',q1,q2,q3⟩:=aDe hT hTc (rr:=(l1,a1,0,tag,st.1,st.2,[q.length].map (yE (vI s)))) l1.length l1 a1 [] [q.length] [] (aMc _) s1 pI rfl (fun x=>by rfl);rw[q1];obtain⟨r,t1,t2,t3,t4,t5⟩:=tail l' a' e' es' en' ids' q2;refine⟨r,?_,?_⟩
    · unfold t8 at t1|-
      rw[aLP];exact t1
    · rw[k2] at q3
      rw[hqlen];rw[hqlen] at q3;cases hen:DO (l1.length+1) [] [l1.length] q with
      | none=>
        rw[hen] at q3;exact t2 q3
      | some w=>
        obtain⟨es2,ks2,r1⟩:=w;rw[hen] at q3;obtain⟨j1,j2,j3,j4⟩:=q3;have t5':=t5 j1;rw[j4] at t5';dsimp only;subst j2 j3;cases hn1:uC yC r1 with
        |none=>rw[a5l hn1,aLU pH] at t5';exact t5'
        | some r2=>
          dsimp only;cases hn2:uC zU (qU r2) with
          |none=>rw[a5m hn1 hn2,aLU pH] at t5';exact t5'
          | some r3=>
            rw[Q3 hn1 hn2] at t5';dsimp only;by_cases hd:(qU r3).head?.map (·.1)=some 4
            · rw[aLQ (aMg hd)] at t5'
              rw[aLQ hd];exact⟨t5',t3,t4⟩
            · rw[aLU (by simpa using hd)] at t5'
              rw[aLU hd];exact t5'
end
noncomputable section
theorem aI4:M4=some true:=by kernel_rfl
end
noncomputable section
theorem Q4 {l:List sK}{n:pD}(h:(l.any fun a=>decide (a.1=n))=true): ∃a∈l,a.1=n/\sH l n=a.2.1:= @aCQ [] n l [] h
theorem Q5:vA []=true:=by kernel_rfl
theorem aI5 {s y:pD}(h:yA s=some y):vA y=true:=by
 unfold yA at h;split at h
 .split at h
  .rename_i h2;cases h;exact h2
  .cases h
 .cases h
def tH (P:List TE):Prop:= ∃Q t,P=Q++[t]/\t.1=2
theorem tH.ne {P:List TE}(h:tH P):P≠[]:=by
 obtain⟨Q,t,rfl,_⟩:=h;simp
theorem tH.one {t:TE}(h:t.1=2):tH [t]:=⟨[],t,rfl,h⟩
theorem tH.app {P Q:List TE}(h:tH Q):tH (P++Q):=by
 obtain⟨R,t,rfl,ht⟩:=h;exact⟨P++R,t,by rw[aLV],ht⟩
theorem tH.cons {P:List TE}{u:TE}(h:tH P):tH (u::P):=tH.app (P:=[u]) h
theorem DP {P R R':List TE}(h:P≠[]):rI (P++R)=rI (P++R'):=by
 cases P with
 |nil=>exact absurd rfl h
 |cons t P=>rfl
theorem a5n (n:pD) (t:TE) (r:List TE):uC n (t::r)=if (uV t).1=3/\(uV t).2.1=n then some r else none:=rfl
theorem aDg (x:x5) (t:TE) (r:List TE) (h:x.1=2):yB x (t::r)=some ([],r):=by
 show (if x.1=2 then some (([]:pD),r) else _)=_;rw[aLQ h]
theorem aI6 (x:x5) (t:TE) (h:x.1≠2):yB x [t]=none:=by
 show (if x.1=2 then some (([]:pD),([]:List TE)) else none)=_;rw[aLU h]
theorem a5o (x:x5) (t u:TE) (r2:List TE) (h:x.1≠2):yB x (t::u::r2)=if u.1=3 then(match yA u.2 with
    |some s=>(uC x.2.1 r2).map fun q=>(s,q)
    |none=>none) else(uC x.2.1 (u::r2)).map fun q=>([],q):=by
 show (if x.1=2 then some (([]:pD),u::r2) else(if u.1=3 then(match yA u.2 with
    |some s=>(uC x.2.1 r2).map fun q=>(s,q)
    |none=>none) else(uC x.2.1 (u::r2)).map fun q=>([],q)))=_
 rw[aLU h]
theorem Q6 {n:pD}{L R:List TE}(h:uC n L=some R): ∃t,L=t::R/\t.1=2/\∀R',uC n (t::R')=some R':=by
 cases L with
 |nil=>cases h
 |cons t r=>
  rw[a5n] at h;by_cases hc:(uV t).1=3/\(uV t).2.1=n
  .rw[aLQ hc] at h;cases h;exact⟨t,rfl,PY (by rw[hc.1];decide),fun R'=>by rw[a5n,aLQ hc]⟩
  .rw[aLU hc] at h;cases h
theorem UH {x:x5}{L R:List TE}{s:pD}(h:yB x L=some (s,R)) (hx: ∃t r,L=t::r/\t.1=2): ∃P,L=P++R/\tH P/\(∀R',yB x (P++R')=some (s,R'))/\vA s=true:=by
 obtain⟨t,r,rfl,ht⟩:=hx;by_cases h2:x.1=2
 .rw[aDg x t r h2] at h;cases h;exact⟨[t],rfl,tH.one ht,fun R'=>aDg x t R' h2,Q5⟩
 .cases r with
  |nil=>rw[aI6 x t h2] at h;cases h
  |cons u r2=>
   rw[a5o x t u r2 h2] at h;by_cases h3:u.1=3
   .rw[aLQ h3] at h;cases hte:yA u.2 with
    |none=>rw[hte] at h;cases h
    |some y=>
     rw[hte] at h;dsimp only at h;obtain⟨q,hq,he⟩:=aLW.1 h;cases he;obtain⟨v,rfl,hv,hn⟩:=Q6 hq;refine⟨[t,u,v],rfl,tH.app (P:=[t,u]) (tH.one hv),fun R'=> ?_,aI5 hte⟩;show yB x (t::u::v::R')=_;rw[a5o x t u _ h2,aLQ h3,hte];dsimp only;rw[hn];rfl
   .rw[aLU h3] at h;obtain⟨q,hq,he⟩:=aLW.1 h;cases he;obtain⟨v,hvq,hv,hn⟩:=Q6 hq;injection hvq with e1 e2
    subst e1 e2;refine⟨[t,u],rfl,tH.app (P:=[t]) (tH.one hv),fun R'=> ?_,Q5⟩;show yB x (t::u::R')=_;rw[a5o x t u _ h2,aLU h3,hn];rfl
theorem aDh {x:x5}{cs cs':pE}{L R:List TE}(h:AD x cs L=some (cs',R)) (hx: ∃t r,L=t::r/\t.1=2) (hv:y9 cs=true): ∃P,L=P++R/\tH P/\(∀R',AD x cs (P++R')=some (cs',R'))/\y9 cs'=true:=by
 unfold AD at h;split at h
 .rename_i hc;obtain⟨q,hq,he⟩:=aLW.1 h;cases he;obtain⟨P,h1,h2,h3,h4⟩:=UH (s:=q.1) (R:=q.2) hq hx;refine⟨P,h1,h2,fun R'=>by unfold AD;rw[aLQ hc,h3];rfl,aIC hv ?_ h4⟩;have:=(U9 hv).1;have:=hc.2.2;omega
 .cases h
theorem aDi {x:x5}{fs fs':List sK}{L R:List TE}(h:AE x fs L=some (fs',R)) (hx: ∃t r,L=t::r/\t.1=2) (hv:xX fs=true): ∃P,L=P++R/\tH P/\(∀R',AE x fs (P++R')=some (fs',R'))/\xX fs'=true:=by
 unfold AE at h;split at h
 .rename_i hc;obtain⟨q,hq,he⟩:=aLW.1 h;cases he;obtain⟨P,h1,h2,h3,h4⟩:=UH (s:=q.1) (R:=q.2) hq hx;refine⟨P,h1,h2,fun R'=>by unfold AE;rw[aLQ hc,h3];rfl,aID hv ?_ ?_ h4 ?_⟩
  .have:=(UA hv).1;have:=hc.2.2.2.2;omega
  .have ha:=hc.1;unfold yO at ha;rw[aMb] at ha;have:=aMB.1 ha.2 x6 aL7;obtain⟨a,ham,_,hg⟩:=Q4 this;rw[hg];exact aMB.1 hc.2.1 a ham
  .rw[hc.2.2.2.1];decide
 .cases h
structure I6 (st:HT):Prop where
 src:vA st.1=true
 tgt:vA st.2.1=true
 com:y9 st.2.2.1=true
 fld:xX st.2.2.2.1=true
theorem aDj {L:List TE}(h:(rI L).1≠0): ∃t r,L=t::r/\t.1=2:=by
 cases L with
 |nil=>exact absurd rfl h
 |cons t r=>exact⟨t,r,rfl,PY h⟩
theorem aDk: ∀(n:Nat) (st st':HT) (L R:List TE),vQ n st L=some (st',R)->I6 st->∃P,L=P++R/\tH P/\(∀R' m,P.length<=m->vQ m st (P++R')=some (st',R'))/\I6 st'
 |0,_,_,_,_,h,_=>by cases h
 |n+1,st,st',L,R,h,hv=>by
  unfold vQ at h;have goon: ∀(st1:HT) (P1 r:List TE),qU L=P1++r->tH P1->vQ n st1 r=some (st',R)->I6 st1->(∀R' m,vQ (m+1) st (L.takeWhile sX++(P1++R'))=vQ m st1 R')->
    ∃P,L=P++R/\tH P/\(∀R' m,P.length<=m->vQ m st (P++R')=some (st',R'))/\I6 st':=by
   intro st1 P1 r h1 h2 h3 h4 h5;obtain⟨P,e1,e2,e3,e4⟩:=aDk n st1 st' r R h3 h4;have hL:L=L.takeWhile sX++(P1++r):=by rw[<-h1];exact(List.takeWhile_append_dropWhile).symm
   refine⟨L.takeWhile sX++(P1++P),?_,tH.app (tH.app e2),fun R' m hm=> ?_,e4⟩
   .rw[aLV,aLV,<-e1];exact hL
   .have hp:=aMn.2 h2.ne;simp only[aLT] at hm;obtain⟨m,rfl⟩: ∃k,m=k+1:=⟨m-1,pG⟩;rw[aLV,aLV,h5,e3 R' m pG]
  have hsk: ∀(P1 r:List TE),qU L=P1++r->P1≠[]->∀R',qU (L.takeWhile sX++(P1++R'))=P1++R':=fun P1 r h1 h2 R'=>by
   have hG: ∀t∈L.takeWhile sX,sX t=true:=fun t ht=>aMB.1 (List.all_takeWhile) t ht;cases P1 with
   |nil=>exact absurd rfl h2
   |cons p P'=>
    have hp:sX p=false:=by
     have h3:L.dropWhile sX=p::(P'++r):=h1;have:=List.head?_dropWhile_not sX L;rw[h3] at this;simpa using this
    unfold qU;rw[List.dropWhile_append_of_pos hG,List.cons_append,List.dropWhile_cons,hp];rfl
  by_cases h30:(rI (qU L)).1=3\/(rI (qU L)).1=0
  .rw[aLQ h30] at h;obtain⟨q,hq,he⟩:=aLW.1 h;cases he;obtain⟨t,h1,h2,h3⟩:=Q6 hq;have h1':qU L=[t]++R:=h1;have hs:=hsk [t] R h1' pI;refine⟨L.takeWhile sX++[t],?_,tH.app (tH.one h2),fun R' m hm=> ?_,hv⟩
   .rw[aLV,<-h1'];exact(List.takeWhile_append_dropWhile).symm
   .simp only[aLT,aLY,aMh] at hm;obtain⟨m,rfl⟩: ∃k,m=k+1:=⟨m-1,pG⟩;unfold vQ;rw[aLV,hs,DP (R':=R) pI,<-h1',aLQ h30];rw[show [t]++R'=t::R' from rfl,h3];rfl
  .rw[aLU h30] at h;have htag:=aDj (L:=qU L) (fun e=>h30 (.inr e));by_cases hc:(rI (qU L)).2.1=MF
   .rw[aLQ hc] at h;cases hr:AD (rI (qU L)) st.2.2.1 (qU L) with
    |none=>rw[hr] at h;cases h
    |some w=>
     obtain⟨cs,r⟩:=w;rw[hr] at h;obtain⟨P1,e1,e2,e3,e4⟩:=aDh hr htag hv.com;refine goon (st.1,st.2.1,cs,st.2.2.2.1,st.2.2.2.2.1,st.2.2.2.2.2) P1 r e1 e2 h ⟨hv.src,hv.tgt,e4,hv.fld⟩ fun R' m=> ?_;have hpk:rI (P1++R')=rI (qU L):=by rw[e1];exact DP e2.ne
     rw[vQ,hsk P1 r e1 e2.ne,hpk,aLU h30,aLQ hc,e3]
   .rw[aLU hc] at h;by_cases hf:(rI (qU L)).2.1=MG
    .rw[aLQ hf] at h;cases hr:AE (rI (qU L)) st.2.2.2.1 (qU L) with
     |none=>rw[hr] at h;cases h
     |some w=>
      obtain⟨fs,r⟩:=w;rw[hr] at h;obtain⟨P1,e1,e2,e3,e4⟩:=aDi hr htag hv.fld;refine goon (st.1,st.2.1,st.2.2.1,fs,st.2.2.2.2.1,st.2.2.2.2.2) P1 r e1 e2 h ⟨hv.src,hv.tgt,hv.com,e4⟩ fun R' m=> ?_;have hpk:rI (P1++R')=rI (qU L):=by rw[e1];exact DP e2.ne
      rw[vQ,hsk P1 r e1 e2.ne,hpk,aLU h30,aLU hc,aLQ hf,e3]
    .rw[aLU hf] at h;by_cases hs:(rI (qU L)).2.1=zT
     .rw[aLQ hs] at h;split at h
      .rename_i hg;cases hr:yB (rI (qU L)) (qU L) with
       |none=>rw[hr] at h;cases h
       |some w=>
        obtain⟨s,r⟩:=w;rw[hr] at h;obtain⟨P1,e1,e2,e3,e4⟩:=UH hr htag;refine goon (s,st.2.1,st.2.2.1,st.2.2.2.1,true,st.2.2.2.2.2) P1 r e1 e2 h ⟨e4,hv.tgt,hv.com,hv.fld⟩ fun R' m=> ?_;have hpk:rI (P1++R')=rI (qU L):=by rw[e1];exact DP e2.ne
        rw[vQ,hsk P1 r e1 e2.ne,hpk,aLU h30,aLU hc,aLU hf,aLQ hs,aLQ hg,e3]
      .cases h
     .rw[aLU hs] at h;by_cases ht:(rI (qU L)).2.1=G2
      .rw[aLQ ht] at h;split at h
       .rename_i hg;cases hr:yB (rI (qU L)) (qU L) with
        |none=>rw[hr] at h;cases h
        |some w=>
         obtain⟨s,r⟩:=w;rw[hr] at h;obtain⟨P1,e1,e2,e3,e4⟩:=UH hr htag;refine goon (st.1,s,st.2.2.1,st.2.2.2.1,st.2.2.2.2.1,true) P1 r e1 e2 h ⟨hv.src,e4,hv.com,hv.fld⟩ fun R' m=> ?_;have hpk:rI (P1++R')=rI (qU L):=by rw[e1];exact DP e2.ne
         rw[vQ,hsk P1 r e1 e2.ne,hpk,aLU h30,aLU hc,aLU hf,aLU hs,aLQ ht,aLQ hg,e3]
       .cases h
      .rw[aLU ht] at h;cases h
end
noncomputable section
theorem aI7 {l:pE}(h:JZ l=false):(sI l).Pairwise (· < ·):=by
 unfold JZ at h;have h1: ¬(Lib.compact (sI l)).length<(sI l).length:=of_decide_eq_false h;generalize hs:sI l=s at h1;have hpw:s.Pairwise (·<=·):=by rw[<-hs];exact aIl l
 have h2:((List.range s.length).filter (Lib.keeps s.toArray)).length=(List.range s.length).length:=by
  have h3:(Lib.compact s).length=((List.range s.length).filter (Lib.keeps s.toArray)).length:=by
   unfold Lib.compact Lib.compactUpTo;rw[aMM]
  have h4:=List.length_filter_le (Lib.keeps s.toArray) (List.range s.length);rw[List.length_range] at h4|-;omega
 have h3:=List.length_filter_eq_length_iff.1 h2;refine a47 (r:=fun a b:pD=>a<b) (fun a b c=>List.lt_trans) fun i hi=> ?_;have hk:=h3 (i+1) (aNn.2 hi);have hne:s[i+1]≠s[i]:=by
  intro e;have:=Lib.keeps_neg (d:=s.toArray) (m:=i+1) pG (by
   rw[Nat.add_sub_cancel,getElem!_pos s.toArray (i+1) (by simpa using hi),getElem!_pos s.toArray i pJ];simpa using e)
  rw[this] at hk;cases hk
 have hle:s[i]<=s[i+1]:=aM3.1 hpw i (i+1) pG hi pG;exact aCs (a:=s[i+1]) (b:=s[i]) (fun hlt=>hle hlt) hne
theorem aI8:tT []=[]:=by kernel_rfl
theorem aI9 (s:pD):C0 s<=4:=by
 unfold C0;cases h:HI.findIdx? fun x=>decide (x=s) with
 |none=>show (-1:Int)<=4;decide
 |some k=>
  have:=(aMO.1 h).1;show (k:Int)<=4;unfold HI at this;simp only[aLY,aMh] at this;omega
theorem aDl {l:List sK}{n:pD}(h:(l.any fun a=>decide (a.1=n))=false):sH l n=[]:=by
 have go: ∀(l:List sK) (v:pD),(l.any fun a=>decide (a.1=n))=false->l.foldl (fun v a=>if n=a.1 then a.2.1 else v) v=v:=by
  intro l
  induction l with
  |nil=>intro v _;rfl
  |cons a l ih=>
   intro v h;rw[List.any_cons,aMz] at h;have h1: ¬n=a.1:=fun e=>(of_decide_eq_false h.1) e.symm;rw[List.foldl_cons,aLU h1];exact ih v h.2
 exact go l [] h
theorem aJa (L:List TE): ∀a∈(rI L).2.2.1,vA a.2.1=true:=aC4 L
theorem aJb {L:List TE}(n:pD):vA (sH (rI L).2.2.1 n)=true:=by
 cases h:(rI L).2.2.1.any fun a=>decide (a.1=n) with
 |false=>rw[aDl h];exact Q5
 |true=>
  obtain⟨a,ha,_,hg⟩:=Q4 h;rw[hg];exact aJa L a ha
def yOf (x:x5) (st:HT):G0:=(sH x.2.2.1 uE,(st.1,(st.2.1,(st.2.2.1,(sI (tT (sH x.2.2.1 uR)),(max 0 (C0 (sH x.2.2.1 zD)),(st.2.2.2.1,())))))))
theorem aDm:I6 CN:=⟨Q5,Q5,pU,pU⟩
theorem aJc {es:List rW}{L R:List TE}{y:rW}(h:xJ es (rI L) L=some (y,R)): ∃P,L=P++R/\tH P/\DK y=true/\(es.any fun z=>decide (z.1=y.1))=false/\es.length≠1000/\
  (rI L).1≠3/\(rI L).1≠0/\(∀(es':List rW) R',(es'.any fun z=>decide (z.1=y.1))=false->es'.length≠1000->xJ es' (rI (P++R')) (P++R')=some (y,R')):=by
 unfold xJ at h;split at h
 .rename_i hc;obtain⟨⟨st,r⟩,hq,he⟩:=aLW.1 h;dsimp only at he;have hy:yOf (rI L) st=y:=aL9 Prod.fst he;have hr:r=R:=aL9 Prod.snd he;subst hr;obtain⟨c1,c2,c3,c4,c5,c6,c7,c8,c9⟩:=hc;have htag: ∃t q,L=t::q/\t.1=2:=aDj (by rcases c1 with e|e<;>rw[e]<;>decide)
  obtain⟨t,q,hL,ht⟩:=htag;obtain⟨P,e1,e2,e3,e4⟩: ∃P,L=P++r/\tH P/\(∀R',(if (rI L).1=1 then vQ (P++R').length CN ((P++R').drop 1) else some (CN,(P++R').drop 1))=some (st,R'))/\I6 st:=by
   by_cases h1:(rI L).1=1
   .rw[aLQ h1] at hq;rw[hL,List.drop_one,List.tail_cons] at hq;obtain⟨P,a1,a2,a3,a4⟩:=aDk _ _ _ _ _ hq aDm;refine⟨t::P,by rw[hL,a1];rfl,a2.cons,fun R'=> ?_,a4⟩;rw[aLQ h1];show vQ (P++R':List TE).length.succ CN (P++R')=_;exact a3 R' _ (by rw[aLT];omega)
   .rw[aLU h1] at hq;rw[hL,List.drop_one,List.tail_cons] at hq;have hq':=aLS hq;have h2:CN=st:=aL9 Prod.fst hq';have h3:q=r:=aL9 Prod.snd hq';subst h2 h3;exact⟨[t],hL,tH.one ht,fun R'=>by rw[aLU h1];rfl,aDm⟩
  have hid:(sH (rI L).2.2.1 uE)≠[]/\(sH (rI L).2.2.1 uE).length<=200:=by
   have ha:=c3;unfold yO at ha;rw[aMb] at ha;have:=aMB.1 ha.2 uE aL7;obtain⟨a,ham,hn,hg⟩:=Q4 this;have hw:=aMG.1 c4 a ham;unfold CM at hw;rw[aLQ hn] at hw;simp only[aMZ,aMj,not_or] at hw;rw[hg];exact⟨hw.1,pG⟩
  have hfl: ∀f∈tT (sH (rI L).2.2.1 uR),wF f=true:=by
   cases hh:(rI L).2.2.1.any fun a=>decide (a.1=uR) with
   |false=>rw[aDl hh,aI8];intro f hf;cases hf
   |true=>
    obtain⟨a,ham,hn,hg⟩:=Q4 hh;have hw:=aMG.1 c4 a ham;unfold CM at hw;rw[aLU (by rw[hn];decide),aLU (by rw[hn];decide)] at hw;rw[hg];intro f hf;simp only[aMq,Bool.not_eq_false] at hw;exact aMB.1 hw f hf
  have hfo:M8 (sI (tT (sH (rI L).2.2.1 uR)))=true:=aIA (by rw[U7];exact c8) (fun f hf=>hfl f ((aCl _).mem_iff.1 hf)) (aI7 c7);have hyk:DK y=true:=by
   rw[<-hy];have hs:=aI9 (sH (rI L).2.2.1 zD);unfold DK yOf;dsimp only;rw[aJb,e4.src,e4.tgt,e4.com,e4.fld,hfo,decide_eq_false hid.1,aMg (show ((sH (rI L).2.2.1 uE).length:Int)<=200 by have:=hid.2;omega),aMg (show (0:Int)<=max 0 (C0 (sH (rI L).2.2.1 zD)) by omega),aMg (show max 0 (C0 (sH (rI L).2.2.1 zD))<=4 by omega)];rfl
  have hy1:y.1=sH (rI L).2.2.1 uE:=by rw[<-hy];rfl
  refine⟨P,e1,e2,hyk,by rw[hy1];exact c6,c9,by rcases c1 with e|e<;>rw[e]<;>decide,by rcases c1 with e|e<;>rw[e]<;>decide,fun es' R' h1 h2=> ?_⟩
  have hpk:rI (P++R')=rI L:=by rw[e1];exact DP e2.ne
  rw[hpk];unfold xJ;rw[aLQ ⟨c1,c2,c3,c4,c5,by rw[<-hy1];exact h1,c7,c8,h2⟩,e3 R'];show some (yOf (rI L) st,R')=_;rw[hy]
 .cases h
end
noncomputable section
theorem MK {L:List TE}(h:(rI L).2.1≠[]): ∃t r,L=t::r/\t.1=2:=by
 cases L with
 |nil=>exact absurd rfl h
 |cons t r=>
  refine⟨t,r,rfl,?_⟩;by_cases h2:t.1=2
  .exact h2
  .have:uV t=eN:=by unfold uV;exact aLU h2
   have hx:(uV t).2.1≠[]:=h;rw[this] at hx;exact absurd rfl hx
theorem G7 (L:List TE): ∀(P1 r:List TE),qU L=P1++r->P1≠[]->L=L.takeWhile sX++(P1++r)/\∀R',qU (L.takeWhile sX++(P1++R'))=P1++R':=fun P1 r h1 h2=>by
 have hG: ∀t∈L.takeWhile sX,sX t=true:=fun t ht=>aMB.1 (List.all_takeWhile) t ht;refine⟨by rw[<-h1];exact(List.takeWhile_append_dropWhile).symm,fun R'=> ?_⟩;cases P1 with
 |nil=>exact absurd rfl h2
 |cons p P'=>
  have hp:sX p=false:=by
   have h3:L.dropWhile sX=p::(P'++r):=h1;have:=List.head?_dropWhile_not sX L;rw[h3] at this;simpa using this
  unfold qU;rw[List.dropWhile_append_of_pos hG,List.cons_append,List.dropWhile_cons,hp];rfl
theorem aDn: ∀(n:Nat) (st st':G4) (L R:List TE),yD n st L=some (st',R)->y9 st.1=true->xX st.2=true->∃P,L=P++R/\tH P/\(∀R' m,P.length<=m->yD m st (P++R')=some (st',R'))/\y9 st'.1=true/\xX st'.2=true
 |0,_,_,_,_,h,_,_=>by cases h
 |n+1,st,st',L,R,h,hv1,hv2=>by
  unfold yD at h;have goon: ∀(st1:G4) (P1 r:List TE),qU L=P1++r->tH P1->yD n st1 r=some (st',R)->y9 st1.1=true->xX st1.2=true->(∀R' m,yD (m+1) st (L.takeWhile sX++(P1++R'))=yD m st1 R')->
    ∃P,L=P++R/\tH P/\(∀R' m,P.length<=m->yD m st (P++R')=some (st',R'))/\y9 st'.1=true/\xX st'.2=true:=by
   intro st1 P1 r h1 h2 h3 h4 h4' h5;obtain⟨P,e1,e2,e3,e4⟩:=aDn n st1 st' r R h3 h4 h4';have hL:=(G7 L P1 r h1 h2.ne).1;refine⟨L.takeWhile sX++(P1++P),?_,tH.app (tH.app e2),fun R' m hm=> ?_,e4⟩
   .rw[aLV,aLV,<-e1];exact hL
   .have hp:=aMn.2 h2.ne;simp only[aLT] at hm;obtain⟨m,rfl⟩: ∃k,m=k+1:=⟨m-1,pG⟩;rw[aLV,aLV,h5,e3 R' m pG]
  by_cases hc:(rI (qU L)).2.1=MF/\(rI (qU L)).1≠3
  .rw[aLQ hc] at h;have htag:=MK (L:=qU L) (by rw[hc.1];decide);cases hr:AD (rI (qU L)) st.1 (qU L) with
   |none=>rw[hr] at h;cases h
   |some w=>
    obtain⟨cs,r⟩:=w;rw[hr] at h;obtain⟨P1,e1,e2,e3,e4⟩:=aDh hr htag hv1;refine goon (cs,st.2) P1 r e1 e2 h e4 hv2 fun R' m=> ?_;have hpk:rI (P1++R')=rI (qU L):=by rw[e1];exact DP e2.ne
    rw[yD,(G7 L P1 r e1 e2.ne).2,hpk,aLQ hc,e3]
  .rw[aLU hc] at h;by_cases hf:(rI (qU L)).2.1=MG/\(rI (qU L)).1≠3
   .rw[aLQ hf] at h;have htag:=MK (L:=qU L) (by rw[hf.1];decide);cases hr:AE (rI (qU L)) st.2 (qU L) with
    |none=>rw[hr] at h;cases h
    |some w=>
     obtain⟨fs,r⟩:=w;rw[hr] at h;obtain⟨P1,e1,e2,e3,e4⟩:=aDi hr htag hv2;refine goon (st.1,fs) P1 r e1 e2 h hv1 e4 fun R' m=> ?_;have hpk:rI (P1++R')=rI (qU L):=by rw[e1];exact DP e2.ne
     rw[yD,(G7 L P1 r e1 e2.ne).2,hpk,aLU hc,aLQ hf,e3]
   .rw[aLU hf] at h;by_cases he:(rI (qU L)).1=1/\(rI (qU L)).2.1=yC/\(rI (qU L)).2.2.1=[]/\(rI (qU L)).2.2.2=false
    .rw[aLQ he] at h;obtain⟨t,q,h1,ht⟩:=MK (L:=qU L) (by rw[he.2.1];decide);have e0:=aLS h;have e1:st=st':=aL9 Prod.fst e0;have e2:(qU L).drop 1=R:=aL9 Prod.snd e0;rw[h1,List.drop_one,List.tail_cons] at e2;subst e1 e2;have h1':qU L=[t]++q:=h1;obtain⟨g1,g2⟩:=G7 L [t] q h1' pI;refine⟨L.takeWhile sX++[t],by rw[aLV];exact g1,tH.app (tH.one ht),fun R' m hm=> ?_,hv1,hv2⟩;simp only[aLT,aLY,aMh] at hm;obtain⟨m,rfl⟩: ∃k,m=k+1:=⟨m-1,pG⟩;have hpk:rI ([t]++R')=rI (qU L):=by rw[h1'];exact DP pI
     rw[yD,aLV,g2,hpk,aLU hc,aLU hf,aLQ he];rfl
    .rw[aLU he] at h;cases h
theorem aJd {L R:List TE}{tag:pD}{st:G4}(h:B7 L=some (tag,st,R)): ∃P,L=P++R/\tH P/\(∀R',B7 (P++R')=some (tag,st,R'))/\AX tag=true/\y9 st.1=true/\xX st.2=true:=by
 unfold B7 at h;split at h
 .rename_i hc;obtain⟨⟨st1,r⟩,hq,he⟩:=aLW.1 h;dsimp only at he;have e1:sH (rI (qU L)).2.2.1 yP=tag:=aL9 Prod.fst he;have e2:st1=st:=aL9 (fun x=>x.2.1) he;have e3:r=R:=aL9 (fun x=>x.2.2) he;subst e2 e3;obtain⟨t,q,h1,ht⟩:=MK (L:=qU L) (by rw[hc.2.1];decide);rw[h1,List.drop_one,List.tail_cons] at hq;obtain⟨P,a1,a2,a3,a4,a5⟩:=aDn _ _ _ _ _ hq pU pU;have h1':qU L=[t]++q:=h1;obtain⟨g1,g2⟩:=G7 L [t] q h1' pI;refine⟨L.takeWhile sX++([t]++P),by rw[aLV,aLV,<-a1];exact g1,tH.app (tH.app a2),fun R'=> ?_,?_,a4,a5⟩
  .have hpk:rI ([t]++(P++R'))=rI (qU L):=by rw[h1'];exact DP pI
   unfold B7;rw[aLV,aLV,g2,hpk,aLQ hc];show (yD (P++R').length.succ ([],[]) (P++R')).map _=_;rw[a3 R' _ (by rw[aLT];omega),e1];rfl
  .have ha:=hc.2.2.1;unfold yO at ha;rw[aMb] at ha;have:=aMB.1 ha.2 yP aL7;obtain⟨a,ham,_,hg⟩:=Q4 this;rw[<-e1,hg];exact aMB.1 hc.2.2.2.1 a ham
 .cases h
structure ML (P:List TE) (y:rW):Prop where
 lst:tH P
 ok:DK y=true
 rd: ∀(es:List rW) R,(es.any fun z=>decide (z.1=y.1))=false->es.length≠1000->(rI (qU (P++R))).1≠3/\xJ es (rI (qU (P++R))) (qU (P++R))=some (y,R)
inductive zV:List (List TE)->List rW->Prop where
 |nil:zV [] []
 |cons {P:List TE}{y:rW}{Ps:List (List TE)}{ys:List rW}:ML P y->zV Ps ys->zV (P::Ps) (y::ys)
def AG:List (List TE)->Nat->pQ
 |[],_=>[]
 |_::Ps,k=>(Ps.flatten.length+k)::AG Ps k
theorem aJe {es:List rW}{y:rW}(h:CJ es) (h1:DK y=true) (h2:(es.any fun z=>decide (z.1=y.1))=false) (h3:es.length≠1000):CJ (es++[y]):=by
 have hl:=h.len;refine⟨by rw[aLT,aNl];omega,fun x hx=> ?_,?_⟩
 .rcases aML.1 hx with hx|hx
  .exact h.ok x hx
  .rw[aL6.1 hx];exact h1
 .rw[List.pairwise_append];refine⟨h.pw,List.pairwise_singleton _ _,fun a ha b hb=> ?_⟩;rw[aL6.1 hb];have:=aMG.1 h2 a ha;simpa using this
theorem aDo: ∀(n:Nat) (es:List rW) (ks:pQ) (L:List TE) (es':List rW) (ks':pQ) (r1:List TE),DO n es ks L=some (es',ks',r1)->CJ es->
  ∃Ps ys T,L=Ps.flatten++T/\zV Ps ys/\es'=es++ys/\ks'=ks++AG Ps T.length/\r1=qU T/\(rI r1).1=3/\CJ es'
 |0,_,_,_,_,_,_,h,_=>by cases h
 |n+1,es,ks,L,es',ks',r1,h,hv=>by
  unfold DO at h;by_cases h3:(rI (qU L)).1=3
  .rw[aLQ h3] at h;cases h;exact⟨[],[],L,rfl,.nil,by simp,by simp [AG],rfl,h3,hv⟩
  .rw[aLU h3] at h;cases hx:xJ es (rI (qU L)) (qU L) with
   |none=>rw[hx] at h;cases h
   |some w=>
    obtain⟨y,r⟩:=w;rw[hx] at h;dsimp only at h;obtain⟨P,e1,e2,e3,e4,e5,e6,e7,e8⟩:=aJc hx;obtain⟨Ps,ys,T,a1,a2,a3,a4,a5,a6,a7⟩:=aDo n _ _ _ _ _ _ h (aJe hv e3 e4 e5);obtain⟨g1,g2⟩:=G7 L P r e1 e2.ne;refine⟨(L.takeWhile sX++P)::Ps,y::ys,T,?_,.cons ⟨tH.app e2,e3,fun es2 R h1 h2=> ?_⟩ a2,?_,?_,a5,a6,a7⟩
    .rw[aMD,aLV,aLV,<-a1];exact g1
    .rw[aLV,g2];refine⟨?_,e8 es2 R h1 h2⟩;have hpk:rI (P++R)=rI (qU L):=by rw[e1];exact DP e2.ne
     rw[hpk];exact e6
    .rw[a3,aLV];rfl
    .rw[a4,aLV];show _=ks++((Ps.flatten.length+T.length)::AG Ps T.length);rw[a1,aLT];rfl
theorem aDp: ∀(Ps:List (List TE)) (ys es:List rW) (ks:pQ) (T:List TE) (n:Nat),zV Ps ys->CJ (es++ys)->(rI (qU T)).1=3->Ps.length<n->
  DO n es ks (Ps.flatten++T)=some (es++ys,ks++AG Ps T.length,qU T)
 |[],ys,es,ks,T,n,hp,hv,h3,hn=>by
  cases hp;obtain⟨n,rfl⟩: ∃k,n=k+1:=⟨n-1,pG⟩;unfold DO;simp only[List.flatten_nil,List.nil_append];rw[aLQ h3];simp [AG]
 |P::Ps,ys,es,ks,T,n,hp,hv,h3,hn=>by
  cases hp with
  |cons h1 h2=>
   rename_i y ys;obtain⟨n,rfl⟩: ∃k,n=k+1:=⟨n-1,pG⟩;have hpw:=hv.pw;rw[List.pairwise_append] at hpw;have hf:(es.any fun z=>decide (z.1=y.1))=false:=by
    rw[aMG];intro z hz;have:=hpw.2.2 z hz y aL7;simpa using this
   have hl:es.length≠1000:=by
    have:=hv.len;rw[aLT,aLY] at this;omega
   obtain⟨k1,k2⟩:=h1.rd es (Ps.flatten++T) hf hl;unfold DO;rw[aMD,aLV,aLU k1,k2];dsimp only;simp only[aLY] at hn;rw[aDp Ps ys (es++[y]) _ T n h2 (by rw[aLV];exact hv) h3 pG,aLV,aLV];show some (es++(y::ys),ks++((Ps.flatten++T).length::AG Ps T.length),qU T)=some (es++(y::ys),ks++((Ps.flatten.length+T.length)::AG Ps T.length),qU T);rw[aLT]
structure G8 (H:List TE) (tag:pD) (st:G4):Prop where
 lst:tH H
 tagk:AX tag=true
 com:y9 st.1=true
 fld:xX st.2=true
 rd: ∀R,B7 (H++R)=some (tag,st,R)
def AH (T:List TE):Prop:=(rI (qU T)).1=3/\G6 (qU T)=true
theorem aDq {L:List TE}(h:G6 L=true): ∃r2 r3,uC yC L=some r2/\uC zU (qU r2)=some r3/\(qU r3).head?.map (·.1)=some 4:=by
 cases h1:uC yC L with
 |none=>rw[a5l h1] at h;cases h
 |some r2=>
  cases h2:uC zU (qU r2) with
  |none=>rw[a5m h1 h2] at h;cases h
  |some r3=>
   rw[Q3 h1 h2] at h;exact⟨r2,r3,rfl,h2,aMv h⟩
theorem a5q {Ps:List (List TE)}{ys:List rW}(h:zV Ps ys):Ps.length<=Ps.flatten.length/\Ps.length=ys.length:=by
 induction h with
 |nil=>simp
 |cons h1 _ ih=>
  have:=aMn.2 h1.lst.ne;simp only[aLY,aMD,aLT];omega
theorem aJf {L:List TE}{c:C4}{ks:pQ}(h:B8 L=some (c,ks)): ∃H Ps T,L=H++(Ps.flatten++T)/\G8 H c.1 (c.2.1,c.2.2.1)/\zV Ps c.2.2.2.1/\AH T/\ks=(Ps.flatten++T).length::AG Ps T.length/\EM c=true/\CJ c.2.2.2.1:=by
 unfold B8 at h;cases hh:B7 L with
 |none=>rw[hh] at h;cases h
 |some v=>
  obtain⟨tag,st,r⟩:=v;rw[hh] at h;dsimp only at h;obtain⟨H,e1,e2,e3,e4,e5,e6⟩:=aJd hh;cases he:DO (r.length+1) [] [r.length] r with
  |none=>rw[he] at h;cases h
  |some w=>
   obtain⟨es,ks',r1⟩:=w;rw[he] at h;dsimp only at h;obtain⟨Ps,ys,T,a1,a2,a3,a4,a5,a6,a7⟩:=aDo _ _ _ _ _ _ _ he ⟨by simp,fun x hx=>(by cases hx),List.Pairwise.nil⟩;have a3':es=ys:=a3;subst a3';cases h1:uC yC r1 with
   |none=>rw[h1] at h;cases h
   |some r2=>
    rw[h1] at h;dsimp only at h;cases h2:uC zU (qU r2) with
    |none=>rw[h2] at h;cases h
    |some r3=>
     rw[h2] at h;dsimp only at h;by_cases hd:(qU r3).head?.map (·.1)=some 4
     .rw[aLQ hd] at h;have e0:=aLS h;have ec:(tag,(st.1,(st.2,(es,()))))=c:=aL9 Prod.fst e0;have ek:ks'=ks:=aL9 Prod.snd e0;subst ec ek;refine⟨H,Ps,T,by rw[<-a1];exact e1,⟨e2,e4,e5,e6,e3⟩,a2,⟨by rw[<-a5];exact a6,by rw[<-a5,Q3 h1 h2];exact aMg hd⟩,?_,aCv e4 e5 e6 a7,a7⟩;rw[a4,<-a1];rfl
     .rw[aLU hd] at h;cases h
theorem aJg {H:List TE}{Ps:List (List TE)}{T:List TE}{c:C4}(h1:G8 H c.1 (c.2.1,c.2.2.1)) (h2:zV Ps c.2.2.2.1) (h3:CJ c.2.2.2.1) (h4:AH T):B8 (H++(Ps.flatten++T))=some (c,(Ps.flatten++T).length::AG Ps T.length):=by
 obtain⟨r2,r3,k1,k2,k3⟩:=aDq h4.2;have hl:=(a5q h2).1;have he:=aDp Ps c.2.2.2.1 [] [(Ps.flatten++T).length] T ((Ps.flatten++T).length+1) h2 h3 h4.1 (by rw[aLT];omega);unfold B8;rw[h1.rd];dsimp only;rw[he];dsimp only;rw[k1];dsimp only;rw[k2];dsimp only;rw[aLQ k3];rfl
end
noncomputable section
def sL (P:List TE):pD:=P.flatMap (·.2)
theorem aDr (P Q:List TE):sL (P++Q)=sL P++sL Q:=by simp [sL]
theorem UI (t:TE) (Q:List TE):sL (t::Q)=t.2++sL Q:=rfl
theorem aDs: ∀(n m:Nat) (s:pD),s.length<n->s.length<m->G5 n s=G5 m s
 |0,_,_,h,_=>by omega
 |_+1,0,_,_,h=>by omega
 |n+1,m+1,s,h1,h2=>by
  unfold G5;by_cases hs:s=[]
  .rw[aLQ hs,aLQ hs]
  .rw[aLU hs,aLU hs];by_cases h0:(rM s).1=0
   .rw[aLQ h0,aLQ h0]
   .have hp:=(K0 hs).2.1 h0;have hl:=aMn.2 hs;rw[aLU h0,aLU h0,aDs n m _ (by rw[aL8];omega) (by rw[aL8];omega)]
theorem UJ:sP []=[(4,[])]:=rfl
theorem G9 {s:pD}(hs:s≠[]) (h0:(rM s).1≠0):sP s=rM s::sP (s.drop (rM s).2.length):=by
 have hp:=(K0 hs).2.1 h0;have hl:=aMn.2 hs;unfold sP;rw[G5,aLU hs,aLU h0];congr 1;exact aDs _ _ _ (by rw[aL8];omega) pG
theorem MM {s:pD}(hs:s≠[]) (h0:(rM s).1=0):sP s=[rM s]:=by
 unfold sP;rw[G5,aLU hs,aLQ h0]
theorem aJh {s:pD}(h0:(rM s).1≠0):(rM s).2=s.take (rM s).2.length:=by
 unfold rM at h0|-;split
 .rename_i h;rw[aLQ h] at h0;exact absurd rfl h0
 .rename_i h;dsimp only;rw[aMd];rcases Nat.le_total (vH s).2.toNat s.length with h1|h1
  .rw[Nat.min_eq_left h1]
  .rw[Nat.min_eq_right h1,List.take_length,List.take_of_length_le h1]
theorem a5r {s:pD}(h0:(rM s).1≠0):s=(rM s).2++s.drop (rM s).2.length:=by
 have h:=aJh h0;have h2:=(aNk (rM s).2.length s).symm;rw[<-h] at h2;exact h2
theorem MN: ∀(P R:List TE) (s:pD),sP s=P++R->R≠[]->∃u,s=sL P++u/\sP u=R
 |[],R,s,h,_=>⟨s,rfl,h⟩
 |t::P,R,s,h,hR=>by
  by_cases hs:s=[]
  .subst hs;rw[UJ] at h;have:=aL9 List.length h;have hp:=aMn.2 hR;simp only[aLY,aMh,List.cons_append,aLT] at this;omega
  .by_cases h0:(rM s).1=0
   .rw[MM hs h0] at h;have:=aL9 List.length h;have hp:=aMn.2 hR;simp only[aLY,aMh,List.cons_append,aLT] at this;omega
   .rw[G9 hs h0] at h;injection h with e1 e2
    obtain⟨u,h1,h2⟩:=MN P R _ e2 hR;refine⟨u,?_,h2⟩;rw[UI,<-e1,aLV,<-h1];exact a5r h0
theorem a5s: ∀(s u:pD) (q:Bool) (k:Nat),clo q s=some k->clo q (s++u)=some k
 |[],_,_,_,h=>by cases h
 |b::r,u,q,k,h=>by
  rw[List.cons_append];unfold clo at h|-;by_cases h1:b=34
  .rw[aLQ h1] at h|-;obtain⟨j,hj,rfl⟩:=aLW.1 h;rw[a5s r u _ j hj];rfl
  .rw[aLU h1] at h|-;by_cases h2:b=62/\q=false
   .rw[aLQ h2] at h|-;exact h
   .rw[aLU h2] at h|-;obtain⟨j,hj,rfl⟩:=aLW.1 h;rw[a5s r u _ j hj];rfl
theorem a5t: ∀(s:pD) (q:Bool) (k:Nat),clo q s=some k->clo q (s.take (k+1))=some k/\s[k]? =some 62
 |[],_,_,h=>by cases h
 |b::r,q,k,h=>by
  unfold clo at h;by_cases h1:b=34
  .rw[aLQ h1] at h;obtain⟨j,hj,rfl⟩:=aLW.1 h;obtain⟨e1,e2⟩:=a5t r _ j hj;refine⟨?_,by simpa using e2⟩;rw[List.take_succ_cons];unfold clo;rw[aLQ h1,e1];rfl
  .rw[aLU h1] at h;by_cases h2:b=62/\q=false
   .rw[aLQ h2] at h;cases h;refine⟨?_,by simp [h2.1]⟩;rw[List.take_succ_cons];unfold clo;rw[aLU h1,aLQ h2]
   .rw[aLU h2] at h;obtain⟨j,hj,rfl⟩:=aLW.1 h;obtain⟨e1,e2⟩:=a5t r _ j hj;refine⟨?_,by simpa using e2⟩;rw[List.take_succ_cons];unfold clo;rw[aLU h1,aLU h2,e1];rfl
theorem aDt {k:Nat}{s:pD}(h1:xG s=false) (h2:s.head? =some 60) (h3:clo false s=some k):rM s=(2,s.take (k+1)):=by
 have hc:A8 s=(k:Int):=by unfold A8;rw[h3]
 have hn:vH s=(2,(k:Int)+1):=by
  unfold vH;rw[aLU (by rw[h1];decide),aLQ h2,hc,aLU pG]
 unfold rM;rw[hn,aLU (by dsimp only;omega)];show (2,s.take ((k:Int)+1).toNat)=_;rw[show ((k:Int)+1).toNat=k+1 by omega]
theorem aDu {s:pD}(h:(rM s).1=2):xG s=false/\s.head? =some 60/\∃k,clo false s=some k/\rM s=(2,s.take (k+1)):=by
 have hN:(vH s).1=2/\¬(vH s).2<0:=by
  unfold rM at h;split at h
  .cases h
  .rename_i hn;exact⟨h,hn⟩
 unfold vH at hN;by_cases hi:xG s=true
 .rw[aLQ hi] at hN;exact absurd hN.1 pI
 .rw[aLU hi] at hN;by_cases h60:s.head? =some 60
  .rw[aLQ h60] at hN;cases hc:clo false s with
   |none=>
    have:A8 s= -1:=by unfold A8;rw[hc]
    rw[this] at hN;exact absurd pH hN.2
   |some k=>
    have hi':xG s=false:=by simpa using hi
    exact⟨hi',h60,k,rfl,aDt hi' h60 hc⟩
  .rw[aLU h60] at hN;exact absurd hN.1 pI
theorem aJi {s:pD}(h:(rM s).1=2) (u:pD):rM ((rM s).2++u)=rM s:=by
 obtain⟨h1,h2,k,h3,h4⟩:=aDu h;rw[h4];dsimp only;obtain⟨e1,e2⟩:=a5t s false k h3;have hk:k<s.length:=TB h3;have hlen:(s.take (k+1)).length=k+1:=by rw[aMd];omega
 have hc:=a5s (s.take (k+1)) u false k e1;have hh:(s.take (k+1)++u).head? =some 60:=by
  cases s with
  |nil=>cases h2
  |cons b r=>rw[List.take_succ_cons];exact h2
 have hn:xG (s.take (k+1)++u)=false:=by
  cases hq:xG (s.take (k+1)++u) with
  |false=>rfl
  |true=>
   exfalso;unfold xG at hq h1;have hq:=aMv hq;have h1:=of_decide_eq_false h1;by_cases h4:4<=k+1
   .rw[aMJ pG,List.take_take,Nat.min_eq_left h4] at hq;exact h1 hq
   .have h5:((s.take (k+1)++u).take 4)[k]? =some 62:=by
     rw[aNd,aLQ pG,aL4 pG,aNd,aLQ pG];exact e2
    rw[hq] at h5;have:k=0\/k=1\/k=2:=by omega
    rcases this with rfl|rfl|rfl<;>simp [OO] at h5
 rw[aDt hn hh hc,aMJ pG,List.take_of_length_le pG]
end
noncomputable section
theorem UK {s sub:pD}{i:Nat}:Lib.occAt s sub i=true↔(s.drop i).take sub.length=sub:=by
 unfold Lib.occAt;rw[List.isPrefixOf_iff_prefix,List.prefix_iff_eq_take];exact eq_comm
theorem aDv {l u:pD}{m j n:Nat}(h:j+n<=m) (hm:m<=l.length):((l.take m++u).drop j).take n=(l.drop j).take n:=by
 rw[List.drop_append_of_le_length (by rw[aMd];omega),aMJ (by rw[aL8,aMd];omega),List.drop_take,List.take_take,Nat.min_eq_left pG]
abbrev CO:pD:=[45,45,62]
theorem aJj {l u:pD}{i:Nat}(h:Lib.index l CO=i):Lib.index (l.take (i+3)++u) CO=i/\i+3<=l.length:=by
 have hr:=Lib.index_room l CO pG;simp only[aLY,aMh] at hr;have hl:i+3<=l.length:=by omega
 rcases Lib.index_spec l CO with⟨h1,_⟩ |⟨k,h1,h2,h3⟩
 .omega
 .have hk:k=i:=by omega
  subst hk;refine⟨Lib.index_first (by rw[aLT,aMd];omega) ?_ fun j hj=> ?_,hl⟩
  .rw[UK,aDv (by simp only[aLY,aMh];omega) hl];exact UK.1 h3.1
  .cases hq:Lib.occAt (l.take (k+3)++u) CO j with
   |false=>rfl
   |true=>
    rw[UK,aDv (by simp only[aLY,aMh];omega) hl] at hq;have:=UK.2 hq;rw[h3.2 j hj] at this;cases this
theorem a5u {s:pD}{i:Nat}(h1:xG s=true) (h2:Lib.index (s.drop 4) CO=i):rM s=(1,s.take (i+7)):=by
 have hn:vH s=(1,(i:Int)+7):=by
  unfold vH;rw[aLQ h1,h2,aLQ pG]
 unfold rM;rw[hn,aLU (by dsimp only;omega)];show (1,s.take ((i:Int)+7).toNat)=_;rw[show ((i:Int)+7).toNat=i+7 by omega]
theorem a5v {s:pD}(h:(rM s).1=1):xG s=true/\∃i:Nat,Lib.index (s.drop 4) CO=i/\rM s=(1,s.take (i+7)):=by
 have hN:(vH s).1=1/\¬(vH s).2<0:=by
  unfold rM at h;split at h
  .cases h
  .rename_i hn;exact⟨h,hn⟩
 unfold vH at hN;by_cases hi:xG s=true
 .rw[aLQ hi] at hN;by_cases h0:0<=Lib.index (s.drop 4) CO
  .obtain⟨i,hi2⟩: ∃i:Nat,Lib.index (s.drop 4) CO=i:=⟨(Lib.index (s.drop 4) CO).toNat,pG⟩;exact⟨hi,i,hi2,a5u hi hi2⟩
  .rw[aLU h0] at hN;exact absurd (show Lib.index (s.drop 4) CO<0 by omega) hN.2
 .rw[aLU hi] at hN;by_cases h60:s.head? =some 60
  .rw[aLQ h60] at hN;exact absurd hN.1 pI
  .rw[aLU h60] at hN;exact absurd hN.1 pI
theorem a5w {s:pD}(h:(rM s).1=1) (u:pD):rM ((rM s).2++u)=rM s:=by
 obtain⟨h1,i,h2,h3⟩:=a5v h;obtain⟨e1,e2⟩:=aJj (u:=u) h2;rw[aL8] at e2;rw[h3];dsimp only;have hn:xG (s.take (i+7)++u)=true:=by
  unfold xG at h1|-;have h1:=aMv h1;rw[aMJ (by rw[aMd];omega),List.take_take,Nat.min_eq_left pG];exact aMg h1
 have hd:(s.take (i+7)++u).drop 4=(s.drop 4).take (i+3)++u:=by
  rw[List.drop_append_of_le_length (by rw[aMd];omega),List.drop_take];rfl
 rw[a5u (i:=i) hn (by rw[hd];exact e1),aMJ (by rw[aMd];omega),List.take_take,Nat.min_self]
theorem aDw: ∀(w:pD),(∀b∈w,b≠60)->Lib.indexByte w 60= -1
 |[],_=>rfl
 |b::w,h=>by
  have ih:=aDw w (fun c hc=>h c (aL5 _ hc));have hb: ¬(b==60)=true:=by simpa using h b aL7
  unfold Lib.indexByte;rw[aLU hb,ih];rfl
theorem aDx: ∀(w u:pD),(∀b∈w,b≠60)->Lib.indexByte (w++60::u) 60=w.length
 |[],_,_=>rfl
 |b::w,u,h=>by
  have ih:=aDx w u (fun c hc=>h c (aL5 _ hc));have hb: ¬(b==60)=true:=by simpa using h b aL7
  rw[List.cons_append];unfold Lib.indexByte;rw[aLU hb,ih,aLU pI,aLY];omega
theorem aDy: ∀(s:pD),(∀b∈s,b≠60)\/∃w u,s=w++60::u/\∀b∈w,b≠60
 |[]=> .inl (fun b hb=>by cases hb)
 |b::s=>by
  by_cases hb:b=60
  .subst hb;exact .inr ⟨[],s,rfl,fun b hb=>by cases hb⟩
  .rcases aDy s with h|⟨w,u,rfl,h⟩
   .exact .inl fun c hc=>by rcases aL3.1 hc with rfl|hc;exact hb;exact h c hc
   .exact .inr ⟨b::w,u,rfl,fun c hc=>by rcases aL3.1 hc with rfl|hc;exact hb;exact h c hc⟩
theorem aDz {s:pD}(h:s.head?≠some 60):xG s=false:=by
 unfold xG;refine decide_eq_false fun e=>h ?_;cases s with
 |nil=>cases e
 |cons b r=>
  rw[List.take_succ_cons] at e;injection e with e1 _
  rw[e1];rfl
theorem UL {w u:pD}(hw:w≠[]) (h: ∀b∈w,b≠60) (hu:u=[]\/u.head? =some 60):rM (w++u)=(3,w):=by
 have hh:(w++u).head?≠some 60:=by
  cases w with
  |nil=>exact absurd rfl hw
  |cons b r=>
   intro e;have:b=60:=by simpa using e
   exact h b aL7 this
 have hn:vH (w++u)=(3,(w.length:Int)):=by
  unfold vH;rw[aLU (by rw[aDz hh];decide),aLU hh];rcases hu with rfl|hu
  .rw[List.append_nil,aDw w h,aLQ pH]
  .cases u with
   |nil=>cases hu
   |cons b r=>
    have:b=60:=by simpa using hu
    subst this;rw[aDx w r h,aLU pG]
 unfold rM;rw[hn,aLU (by dsimp only;omega)];show (3,(w++u).take (w.length:Int).toNat)=_;rw[aMK,aM2]
theorem aJk {s:pD}(hs:s≠[]) (h:(rM s).1=3): ∃w u,s=w++u/\w≠[]/\(∀b∈w,b≠60)/\(u=[]\/u.head? =some 60)/\rM s=(3,w):=by
 have hN:(vH s).1=3:=by
  unfold rM at h;split at h
  .cases h
  .exact h
 unfold vH at hN;by_cases hi:xG s=true
 .rw[aLQ hi] at hN;exact absurd hN pI
 .rw[aLU hi] at hN;by_cases h60:s.head? =some 60
  .rw[aLQ h60] at hN;exact absurd hN pI
  .rcases aDy s with h1|⟨w,u,rfl,h1⟩
   .exact⟨s,[],(List.append_nil s).symm,hs,h1,.inl rfl,by have:=UL hs h1 (u:=[]) (.inl rfl);rwa [List.append_nil] at this⟩
   .have hw:w≠[]:=fun e=>by subst e;exact h60 rfl
    exact⟨w,60::u,rfl,hw,h1,.inr rfl,UL hw h1 (.inr rfl)⟩
def xK:List TE->Prop
 |[]=>True
 |t::r=>t.2≠[]/\(((t.1=1\/t.1=2)/\t.2.head? =some 60/\∀u,rM (t.2++u)=t)\/(t.1=3/\(∀b∈t.2,b≠60)/\∃v q,r=v::q/\v.2.head? =some 60))/\xK r
theorem MO: ∀(P:List TE),xK P->∀u,sP (sL P++u)=P++sP u
 |[],_,u=>rfl
 |t::r,h,u=>by
  obtain⟨h1,h2,h3⟩:=h;have ih:=MO r h3 u;have hf:rM (t.2++(sL r++u))=t:=by
   rcases h2 with⟨_,_,h2⟩ |⟨h2,h4,v,q,rfl,hv⟩
   .exact h2 _
   .have hh:(sL (v::q)++u).head? =some 60:=by
     rw[UI];cases hv2:v.2 with
     |nil=>rw[hv2] at hv;cases hv
     |cons b x=>rw[hv2] at hv;exact hv
    rw[UL h1 h4 (.inr hh)];exact Prod.ext h2.symm rfl
  have hne:t.2++(sL r++u)≠[]:=by simp [h1]
  have h0:(rM (t.2++(sL r++u))).1≠0:=by
   rw[hf];rcases h2 with⟨h2|h2,_⟩ |⟨h2,_⟩<;>rw[h2]<;>decide
  rw[UI,aLV,G9 hne h0,hf,aNq,ih];rfl
theorem UM {s:pD}(hs:s≠[]) (h0:(rM s).1≠0):(rM s).1=1\/(rM s).1=2\/(rM s).1=3:=(K0 hs).2.2.2.resolve_left h0
theorem a5x {s:pD}(h:xG s=true):s.head? =some 60:=by
 cases hh:decide (s.head? =some 60) with
 |true=>exact aMv hh
 |false=>rw[aDz (of_decide_eq_false hh)] at h;cases h
theorem Q7: ∀(P R:List TE) (s:pD),sP s=P++R->R≠[]->tH P->xK P
 |[],_,_,_,_,_=>trivial
 |t::P,R,s,h,hR,hl=>by
  have hs:s≠[]:=by
   rintro rfl;rw[UJ] at h;have:=aL9 List.length h;have hp:=aMn.2 hR;simp only[aLY,aMh,List.cons_append,aLT] at this;omega
  have h0:(rM s).1≠0:=by
   intro h0;rw[MM hs h0] at h;have:=aL9 List.length h;have hp:=aMn.2 hR;simp only[aLY,aMh,List.cons_append,aLT] at this;omega
  rw[G9 hs h0] at h;injection h with e1 e2
  have e2:sP (s.drop (rM s).2.length)=P++R:=e2;have hne:t.2≠[]:=by
   have:=(K0 hs).2.1 h0;rw[e1] at this;exact aMn.1 this
  have hrest:P=[]\/tH P:=by
   obtain⟨Q,v,hq,hv⟩:=hl;cases Q with
   |nil=>left;injection hq with _ hq
   |cons w Q=>right;injection hq with _ hq;exact⟨Q,v,hq,hv⟩
  have hseg:xK P:=by
   rcases hrest with rfl|hl2
   .trivial
   .exact Q7 P R _ e2 hR hl2
  have head60: ∀{x:pD},x≠[]->x.head? =some 60->(rM x).1≠0->(rM x).2.head? =some 60:=by
   intro x hx h1 h2;have hsp:=a5r h2;have hp:=(K0 hx).2.1 h2;cases hq:(rM x).2 with
   |nil=>rw[hq] at hp;simp at hp
   |cons b q=>rw[hsp,hq] at h1;exact h1
  refine⟨hne,?_,hseg⟩;rcases UM hs h0 with k|k|k
  .left;refine⟨.inl (by rw[<-e1];exact k),?_,fun u=>by rw[<-e1];exact a5w k u⟩;rw[<-e1];exact head60 hs (a5x (a5v k).1) h0
  .left;refine⟨.inr (by rw[<-e1];exact k),?_,fun u=>by rw[<-e1];exact aJi k u⟩;rw[<-e1];exact head60 hs (aDu k).2.1 h0
  .right;obtain⟨w,u,hw1,hw2,hw3,hw4,hw5⟩:=aJk hs k;have ht:t=(3,w):=by rw[<-e1];exact hw5
   have hPne:P≠[]:=by
    rintro rfl;obtain⟨Q,v,hq,hv⟩:=hl;cases Q with
    |nil=>injection hq with hq _;rw[<-hq,ht] at hv;simp at hv
    |cons x Q=>injection hq with _ hq;have:=aL9 List.length hq;simp at this
   have hu:s.drop (rM s).2.length=u:=by rw[hw5,hw1,aNq]
   rw[hu] at e2;refine⟨by rw[ht],by rw[ht];exact hw3,?_⟩;cases P with
   |nil=>exact absurd rfl hPne
   |cons v q=>
    refine⟨v,q,rfl,?_⟩;rcases hw4 with rfl|hu60
    .rw[UJ] at e2;have:=aL9 List.length e2;have hp:=aMn.2 hR;simp only[aLY,aMh,List.cons_append,aLT] at this;omega
    .have hune:u≠[]:=by rintro rfl;cases hu60
     by_cases hu0:(rM u).1=0
     .rw[MM hune hu0] at e2;have:=aL9 List.length e2;have hp:=aMn.2 hR;simp only[aLY,aMh,List.cons_append,aLT] at this;omega
     .rw[G9 hune hu0] at e2;injection e2 with e3 _
      rw[<-e3];exact head60 hune hu60 hu0
end
noncomputable section
theorem aDA {T:List TE}(h:AH T):T≠[]:=by
 rintro rfl;have:=h.1;simp [qU,rI,eN] at this
theorem aDB: ∀(Ps:List (List TE)) (ys:List rW) (T:List TE) (u:pD),sP u=Ps.flatten++T->zV Ps ys->T≠[]->∃tl,u=(Ps.map sL).flatten++tl/\sP tl=T/\∀P∈Ps,xK P
 |[],_,T,u,h,_,_=>⟨u,rfl,h,fun P hP=>by cases hP⟩
 |P::Ps,ys,T,u,h,he,hT=>by
  cases he with
  |cons h1 h2=>
   rw[aMD,aLV] at h;have hR:Ps.flatten++T≠[]:=by simp [hT]
   have hs:=Q7 P _ u h hR h1.lst;obtain⟨v,e1,e2⟩:=MN P _ u h hR;obtain⟨tl,a1,a2,a3⟩:=aDB Ps _ T v e2 h2 hT;refine⟨tl,?_,a2,fun Q hQ=> ?_⟩
   .rw[e1,a1,aMQ,aMD,aLV]
   .rcases aL3.1 hQ with rfl|hQ
    .exact hs
    .exact a3 Q hQ
structure Q8 (s:pD) (c:C4) (H:List TE) (Ps:List (List TE)) (tl:pD):Prop where
 eq:s=sL H++((Ps.map sL).flatten++tl)
 lx:sP s=H++(Ps.flatten++sP tl)
 hd:G8 H c.1 (c.2.1,c.2.2.1)
 ents:zV Ps c.2.2.2.1
 inv:CJ c.2.2.2.1
 tail:AH (sP tl)
 ok:EM c=true
 segH:xK H
 segP: ∀P∈Ps,xK P
theorem aDC {s:pD}{c:C4}{ks:pQ}(h:B8 (sP s)=some (c,ks)): ∃H Ps tl,Q8 s c H Ps tl/\ks=(Ps.flatten++sP tl).length::AG Ps (sP tl).length:=by
 obtain⟨H,Ps,T,h1,h2,h3,h4,h5,h6,h7⟩:=aJf h;have hT:=aDA h4;have hR:Ps.flatten++T≠[]:=by simp [hT]
 have hs:=Q7 H _ s h1 hR h2.lst;obtain⟨u,e1,e2⟩:=MN H _ s h1 hR;obtain⟨tl,a1,a2,a3⟩:=aDB Ps _ T u e2 h3 hT;subst a2;exact⟨H,Ps,tl,⟨by rw[e1,a1],h1,h2,h3,h7,h4,h6,hs,a3⟩,h5⟩
theorem aDD: ∀(Ps:List (List TE)) (tl:pD),(∀P∈Ps,xK P)->sP ((Ps.map sL).flatten++tl)=Ps.flatten++sP tl
 |[],_,_=>rfl
 |P::Ps,tl,h=>by
  rw[aMQ,aMD,aLV,MO P (h P aL7),aDD Ps tl (fun Q hQ=>h Q (aL5 _ hQ)),aMD,aLV]
theorem aJl {c:C4}{H:List TE}{Ps:List (List TE)}{tl:pD}(h1:G8 H c.1 (c.2.1,c.2.2.1)) (h2:zV Ps c.2.2.2.1) (h3:CJ c.2.2.2.1) (h4:AH (sP tl)) (h5:xK H) (h6: ∀P∈Ps,xK P):
  Q8 (sL H++((Ps.map sL).flatten++tl)) c H Ps tl/\B8 (sP (sL H++((Ps.map sL).flatten++tl)))=some (c,(Ps.flatten++sP tl).length::AG Ps (sP tl).length):=by
 have hl:sP (sL H++((Ps.map sL).flatten++tl))=H++(Ps.flatten++sP tl):=by rw[MO H h5,aDD Ps tl h6]
 exact⟨⟨rfl,hl,h1,h2,h3,h4,aCv h1.tagk h1.com h1.fld h3,h5,h6⟩,by rw[hl];exact aJg h1 h2 h3 h4⟩
theorem aDE {T:List t6}(hc:AF T) (h0: ∀t r,T=t::r->t.2.2.1=0): ∀(k:Nat) (hk:k<T.length),(T[k]).2.2.1=((sL ((T.map er).take k)).length:Int)
 |0,hk=>by
  cases T with
  |nil=>simp at hk
  |cons t r=>simpa[sL] using h0 t r rfl
 |k+1,hk=>by
  have ih:=aDE hc h0 k pG;rw[hc k hk,ih,List.take_add_one,aLZ (by rw[aMM];omega),aDr,aLT];simp [sL,er]
theorem aDF {s:pD}(hs:s.length<=900000000) {P R:List TE}(h:sP s=P++R) (hR:R≠[]):yE (vI s) R.length=((sL P).length:Int):=by
 obtain⟨_,hc⟩:=aDc hs;have he:=aDb s;have hlen:(vI s).length=P.length+R.length:=by
  have:=aL9 List.length he;rw[aMM,h,aLT] at this;exact this
 have hp:=aMn.2 hR;have h0: ∀t r,vI s=t::r->t.2.2.1=0:=by
  intro t r e;obtain⟨t',r',e1,e2⟩:=a5j (s:=s) (n:=s.length+1) (i:=0) pG (aMR _);have e1:vI s=t'::r':=e1;rw[e] at e1;injection e1 with e3 _
  rw[e3];exact e2
 obtain⟨k,hk0⟩: ∃k,k=(vI s).length-R.length:=⟨_,rfl⟩;have hkP:k=P.length:=by omega
 have hk:k<(vI s).length:=by omega
 have ht:(P++R).take k=P:=by rw[hkP,aM2]
 have hpa:=aDE hc h0 k hk;rw[he,h,ht] at hpa;unfold yE DN;rw[<-hk0,aMw hk,HO];exact hpa
theorem aDG {s:pD}(hs:s.length<=900000000): ∀(Ps:List (List TE)) (Q T:List TE),sP s=Q++(Ps.flatten++T)->T≠[]->
  (AG Ps T.length).map (yE (vI s))=(CK (sL Q).length (Ps.map sL)).map fun k:Nat=>(k:Int)
 |[],_,_,_,_=>rfl
 |P::Ps,Q,T,h,hT=>by
  have h':sP s=(Q++P)++(Ps.flatten++T):=by rw[h,aMD];simp only[aLV]
  have ih:=aDG hs Ps (Q++P) T h' hT;have hp:=aDF hs h' (by simp [hT]);rw[aLT] at hp;rw[aDr,aLT] at ih hp;show yE (vI s) (Ps.flatten.length+T.length)::(AG Ps T.length).map _=_;rw[hp,ih];rfl
theorem aJm {s:pD}(hs:s.length<=900000000) {c:C4}{H:List TE}{Ps:List (List TE)}{tl:pD}(h:Q8 s c H Ps tl):
  ((Ps.flatten++sP tl).length::AG Ps (sP tl).length).map (yE (vI s))=((sL H).length::CK (sL H).length (Ps.map sL)).map fun k:Nat=>(k:Int):=by
 have hT:=aDA h.tail;rw[aMQ,aMQ,aDG hs Ps H _ h.lx hT,aDF hs h.lx (by simp [hT])]
theorem UN {L:pQ}{j:Nat}:qW (.int .i64) (L.map fun k:Nat=>(k:Int)) (j:Int)=((L.getD j 0:Nat):Int):=by
 unfold qW;rw[aMK,aMr,List.getElem?_map,aMr];cases L[j]? <;>rfl
theorem a5y {s a b c:pD}(h:s=a++(b++c)) {x y:Nat}(hx:x=a.length) (hy:y=a.length+b.length):sD s (x:Int) (y:Int)=b:=by
 subst hx hy;have:=aIH h;exact this
theorem aJn {s h tl:pD}{ps:pE}(hs:s.length<=900000000) (hq:s=h++(ps.flatten++tl)) (hn:ps.length<=1000) {r:((List s7)×Int×Int×pD×pE×(List qZ)×(List rW)×pM×pK)}(he:xV s=some r) (h0:r.2.2.1=0) (hE:r.2.2.2.2.2.2.2.1=(h.length::CK h.length ps).map fun k:Nat=>(k:Int)):
  AW s=some (h,ps,tl,0):=by
 have hL:(h.length::CK h.length ps).length=ps.length+1:=by rw[aLY,aCw]
 have hget: ∀j,j<=ps.length->(h.length::CK h.length ps).getD j 0=h.length+(ps.take j).flatten.length:=fun j hj=>aCx ps _ j hj;have hsl:s.length=h.length+ps.flatten.length+tl.length:=by rw[hq];simp only[aLT];omega
 have hle: ∀j,(ps.take j).flatten.length<=ps.flatten.length:=fun j=>by
  have:=aL9 List.length (aCy ps j);rw[aLT] at this;omega
 have hEl:(r.2.2.2.2.2.2.2.1.length:Int)=((ps.length+1:Nat):Int):=by rw[hE,aMM,hL]
 have k:=aIn (f:=M2 s r) (fun i b=>(i+1,b)) (fun b=>b) (n:=ps.length) (M:=1000000) (B:=1) (fun i=>[ps.getD i []]) (fun i hi=>by simp) [] pJ (fun i b hi hM=>by
  have e1:=hget i pG;have e2:=hget (i+1) pG;have e3:(ps.take (i+1)).flatten=(ps.take i).flatten++ps[i]:=by
   rw[List.take_add_one,aLZ hi,List.flatten_append];simp
  have e4:s=(h++(ps.take i).flatten)++(ps[i]++((ps.drop (i+1)).flatten++tl)):=by
   rw[hq,aCy ps i,aMw hi,aMD];simp only[aLV]
  have e5:sD s ((h.length::CK h.length ps).getD i 0:Nat) ((h.length::CK h.length ps).getD (i+1) 0:Nat)=ps[i]:=a5y e4 (by rw[e1,aLT]) (by rw[e2,e3,aLT,aLT];omega);have e6:=hle (i+1);have e7:(ps.take i).flatten.length<=(ps.take (i+1)).flatten.length:=by rw[e3,aLT];omega
  have hsub:((i:Int)+1)-1=(i:Int):=by omega
  have hcast:(i:Int)+1=((i+1:Nat):Int):=rfl;unfold M2;dsimp only;rw[hsub,hEl,aLQ pJ,aLQ (by unfold qE;omega),aLQ ⟨pG,pG⟩,aLQ ⟨pG,pG⟩,hE,hcast,UN,UN,e5,e1,e2,aLQ (by show (0:Int)<=((h.length+(ps.take i).flatten.length:Nat):Int)/\((h.length+(ps.take i).flatten.length:Nat):Int)<=((h.length+(ps.take (i+1)).flatten.length:Nat):Int)/\((h.length+(ps.take (i+1)).flatten.length:Nat):Int)<=(s.length:Int);omega),aLQ pJ,aLQ (by unfold qE;omega),B3 hi]) (fun b=>by
  unfold M2;dsimp only;rw[hEl,aLU pI])
 have k':rX (M2 s r) ((1:Int),[])=_:=k;have z0:=hget 0 pG;have zl:=hget ps.length (aMc _);rw[List.take_length] at zl;have hl1:((ps.length+1:Nat):Int)-1=(ps.length:Int):=by omega
 unfold AW;rw[he,aLP,h0,aLU pH,hEl,hl1,hE];rw[show (0:Int)=((0:Nat):Int) from rfl,UN,UN,z0,zl];rw[aLQ ⟨pG,pG⟩,aLQ ⟨pG,pG,by simp;omega⟩,aLQ (by unfold qE;omega),aLQ ⟨pG,pG⟩];rw[aLQ (by show (0:Int)<=((h.length+ps.flatten.length:Nat):Int)/\((h.length+ps.flatten.length:Nat):Int)<=(s.length:Int)/\(s.length:Int)<=(s.length:Int);omega)];rw[k',aIo (l:=ps) (d:=[]) (fun x=>[x])];unfold t8;rw[aLP,List.nil_append,aIq,List.map_id'];have c1:sD s ((0:Nat):Int) ((h.length+(List.take 0 ps).flatten.length:Nat):Int)=h:=a5y (a:=[]) (b:=h) (c:=ps.flatten++tl) hq rfl pI;have c2:sD s ((h.length+ps.flatten.length:Nat):Int) (s.length:Int)=tl:=a5y (a:=h++ps.flatten) (b:=tl) (c:=[]) (by rw[hq];simp) pI (by rw[hsl];simp only[aLT]);rw[c1,c2]
theorem aJo {s:pD}{r:((List s7)×Int×Int×pD×pE×(List qZ)×(List rW)×pM×pK)}(he:xV s=some r) (h0:r.2.2.1≠0):AW s=some ([],[],[],r.2.2.1):=by
 unfold AW;rw[he,aLP,aLQ (by simpa using h0)]
theorem aJp {s:pD}(hs:s.length<=900000000):
  (∃c H Ps tl,Q8 s c H Ps tl/\(∃ks,B8 (sP s)=some (c,ks))/\wQ s=some (c.1,c.2.1,c.2.2.1,c.2.2.2.1,0,0))\/
  (∃p e,e≠0/\B8 (sP s)=none/\wQ s=some ([],[],[],[],p,e)):=by
 obtain⟨r,hr,hm⟩:=aDf hs;cases hp:B8 (sP s) with
 |none=>
  rw[hp] at hm;right;refine⟨r.2.1,r.2.2.1,hm,rfl,?_⟩;unfold wQ;rw[hr,aLP,aLQ (by simpa using hm)]
 |some w=>
  obtain⟨c,ks⟩:=w;rw[hp] at hm;obtain⟨m1,m2,m3⟩:=hm;obtain⟨H,Ps,tl,hb,hk⟩:=aDC hp;left;refine⟨c,H,Ps,tl,hb,⟨ks,rfl⟩,?_⟩;unfold wQ;rw[hr,aLP,aLU (by rw[m1];decide),<-m2]
theorem aJq {s:pD}(hs:s.length<=900000000):
  (∃c H Ps tl,Q8 s c H Ps tl/\(∃ks,B8 (sP s)=some (c,ks))/\wQ s=some (c.1,c.2.1,c.2.2.1,c.2.2.2.1,0,0)/\AW s=some (sL H,Ps.map sL,tl,0))\/
  (∃p e,e≠0/\B8 (sP s)=none/\wQ s=some ([],[],[],[],p,e)/\AW s=some ([],[],[],e)):=by
 obtain⟨r,hr,hm⟩:=aDf hs;cases hp:B8 (sP s) with
 |none=>
  rw[hp] at hm;dsimp only at hm;right;refine⟨r.2.1,r.2.2.1,hm,rfl,?_,aJo hr hm⟩;unfold wQ;rw[hr,aLP,aLQ (by simpa using hm)]
 |some w=>
  obtain⟨c,ks⟩:=w;rw[hp] at hm;obtain⟨m1,m2,m3⟩:=hm;obtain⟨H,Ps,tl,hb,hk⟩:=aDC hp;left;refine⟨c,H,Ps,tl,hb,⟨ks,rfl⟩,?_,?_⟩
  .unfold wQ;rw[hr,aLP,aLU (by rw[m1];decide),<-m2]
  .refine aJn hs hb.eq ?_ hr m1 ?_
   .rw[aMM,(a5q hb.ents).2];exact hb.inv.len
   .rw[m3,hk];exact aJm hs hb
end
noncomputable section
structure aDH (t:TE):Prop where
 two:t.1=2
 hd:t.2.head? =some 60
 fst: ∀u,rM (t.2++u)=t
theorem aDH.ne {t:TE}(h:aDH t):t.2≠[]:=by
 intro e;have:=h.hd;rw[e] at this;cases this
end
noncomputable section
theorem HU {t:TE}{R:List TE}(h:sX t=true):qU (t::R)=qU R:=by
 unfold qU;rw[List.dropWhile_cons,h];rfl
end
noncomputable section
theorem aDI {a:Int}(h0:0<=a) (h1:a<65536) {n:Nat}(hn:0<n): ∃k:Nat,k<n/\Int.tmod (IntKind.wrap .i64 a) (n:Int)=(k:Int):=by
 obtain⟨m,rfl⟩:=Int.eq_ofNat_of_zero_le h0;refine⟨m%n,Nat.mod_lt _ hn,?_⟩;have hw:IntKind.wrap .i64 (m:Int)=(m:Int):=by
  have e:(m:Int) %2^64=m:=Int.emod_eq_of_lt pG pG;have e2:IntKind.wrap .i64 (m:Int)=if (true&&decide ((m:Int) %2^64>=2^63))=true then(m:Int) %2^64-2^64 else(m:Int) %2^64:=rfl;rw[e2,e,aLU pJ]
 rw[hw];exact(Int.ofNat_tmod m n).symm
theorem aJr {ts:pE}{x:pD}: ∀(k:Nat),(ts.set k x).flatten.length<=ts.flatten.length+x.length:=by
 induction ts with
 |nil=>intro k;simp
 |cons t ts ih=>
  intro k;cases k with
  |zero=>simp only[List.set_cons_zero,aMD,aLT];omega
  |succ k=>
   have:=ih k;simp only[List.set_cons_succ,aMD,aLT];omega
theorem aDJ {P:List TE}{x:rW}(hP:ML P x): ∀{Ps:List (List TE)}{ys:List rW}(k:Nat),zV Ps ys->zV (Ps.set k P) (ys.set k x)
 |_,_,_,.nil=> .nil
 |_,_,0,.cons _ h2=> .cons hP h2
 |_,_,k+1,.cons h1 h2=> .cons h1 (aDJ hP k h2)
theorem aJs {c:C4}{H:List TE}{Ps:List (List TE)}{tl:pD}(h1:G8 H c.1 (c.2.1,c.2.2.1)) (h2:zV Ps c.2.2.2.1) (h3:CJ c.2.2.2.1) (h4:AH (sP tl)) (h5:xK H) (h6: ∀P∈Ps,xK P) (hl:(sL H++((Ps.map sL).flatten++tl)).length<=900000000):
  wQ (sL H++((Ps.map sL).flatten++tl))=some (c.1,c.2.1,c.2.2.1,c.2.2.2.1,0,0):=by
 obtain⟨_,hk⟩:=aJl h1 h2 h3 h4 h5 h6;rcases aJp hl with⟨c',H',Ps',tl',_,⟨ks',h1⟩,h2⟩ |⟨p,e,_,h1,_⟩
 .rw[hk] at h1;cases h1;exact h2
 .rw[hk] at h1;cases h1
end
noncomputable section
inductive w4:pD->Prop where
 |nil:w4 []
 |blank {b:UInt8}{w:pD}:blk b=true->w4 w->w4 (b::w)
 |note {n w:pD}:n≠[]->n.head? =some 60->(∀u,rM (n++u)=(1,n))->w4 w->w4 (n++w)
theorem w4.app {a b:pD}(ha:w4 a) (hb:w4 b):w4 (a++b):=by
 induction ha with
 |nil=>exact hb
 |blank h1 _ ih=>exact .blank h1 ih
 |note h1 h2 h3 _ ih=>rw[aLV];exact .note h1 h2 h3 ih
theorem a5z {b:UInt8}(h:blk b=true):b≠60:=by rintro rfl;exact absurd h pH
structure K1 (P:List TE):Prop where
 seg:xK P
 lst:tH P
 tag: ∃t q,qU P=t::q/\t.1=2
theorem aJt {P:List TE}(h: ∃t q,qU P=t::q/\t.1=2) (R:List TE):qU (P++R)=qU P++R:=by
 obtain⟨t,q,h1,h2⟩:=h;obtain⟨e1,e2⟩:=G7 P [t] q (by rw[h1];rfl) pI;have e3:=e2 (q++R)
 conv=>lhs;rw[e1]
 rw[h1];simp only[aLV] at e3|-;exact e3
theorem a5A {w:pD}(h: ∀b∈w,blk b=true):sX (3,w)=true:=by
 unfold sX HM;rw[show (List.all w blk)=true from aMB.2 h];rfl
theorem aDK {w:pD}(h:sX (3,w)=true): ∀b∈w,blk b=true:=by
 unfold sX HM at h;simpa using h
theorem aJu {P:List TE}{b:UInt8}(hb:blk b=true) (h:K1 P): ∃P',K1 P'/\sL P'=b::sL P/\∀R,qU (P'++R)=qU (P++R):=by
 obtain⟨hs,hl,ht⟩:=h;cases P with
 |nil=>exact absurd rfl hl.ne
 |cons t P=>
  obtain⟨k1,k2,k3⟩:=hs;have hrest:P=[]\/tH P:=by
   obtain⟨Q,v,hq,hv⟩:=hl;cases Q with
   |nil=>left;injection hq with _ hq
   |cons w Q=>right;injection hq with _ hq;exact⟨Q,v,hq,hv⟩
  rcases k2 with⟨k2,k4,k5⟩ |⟨k2,k4,v,q,rfl,k5⟩
  ·
   have hg:sX (3,[b])=true:=a5A (fun c hc=>by rw[aL6.1 hc];exact hb);refine⟨(3,[b])::t::P,⟨⟨by simp,.inr ⟨rfl,fun c hc=>by rw[aL6.1 hc];exact a5z hb,t,P,rfl,k4⟩,k1,.inl ⟨k2,k4,k5⟩,k3⟩,hl.cons,?_⟩,rfl,fun R=> ?_⟩
   .rw[HU hg];exact ht
   .show qU ((3,[b])::((t::P)++R))=_;rw[HU hg]
  ·
   obtain⟨n,w⟩:=t;have k2:n=3:=k2;subst k2;have hgap:sX (3,w)=true:=by
    cases hq:sX (3,w) with
    |true=>rfl
    |false=>
     obtain⟨t',q',e1,e2⟩:=ht;have:qU ((3,w)::v::q)=(3,w)::v::q:=by
      unfold qU;rw[List.dropWhile_cons,hq];rfl
     rw[this] at e1;injection e1 with e3 _
     rw[<-e3] at e2;simp at e2
   have hg2:sX (3,b::w)=true:=a5A (fun c hc=>by
    rcases aL3.1 hc with rfl|hc
    .exact hb
    .exact aDK hgap c hc)
   have hl2:tH (v::q):=by
    rcases hrest with h|h
    .cases h
    .exact h
   refine⟨(3,b::w)::v::q,⟨⟨by simp,.inr ⟨rfl,fun c hc=>by
    rcases aL3.1 hc with rfl|hc
    .exact a5z hb
    .exact k4 c hc,v,q,rfl,k5⟩,k3⟩,hl2.cons,?_⟩,rfl,fun R=> ?_⟩
   .rw[HU hg2];rw[HU hgap] at ht;exact ht
   .show qU ((3,b::w)::((v::q)++R))=qU ((3,w)::((v::q)++R));rw[HU hg2,HU hgap]
theorem a5B {g:pD}(hg:w4 g): ∀{P:List TE},K1 P->∃P',K1 P'/\sL P'=g++sL P/\∀R,qU (P'++R)=qU (P++R):=by
 induction hg with
 |nil=>intro P h;exact⟨P,h,rfl,fun _=>rfl⟩
 |blank hb _ ih=>
  intro P h;obtain⟨P1,a1,a2,a3⟩:=ih h;obtain⟨P2,b1,b2,b3⟩:=aJu hb a1;exact⟨P2,b1,by rw[b2,a2];rfl,fun R=>(b3 R).trans (a3 R)⟩
 |note h1 h2 h3 _ ih=>
  rename_i n w _;intro P h;obtain⟨P1,a1,a2,a3⟩:=ih h;have hgp:sX (1,n)=true:=by unfold sX;rfl
  refine⟨(1,n)::P1,⟨⟨h1,.inl ⟨.inl rfl,h2,h3⟩,a1.seg⟩,a1.lst.cons,?_⟩,?_,fun R=> ?_⟩
  .rw[HU hgp];exact a1.tag
  .rw[UI,a2,aLV]
  .show qU ((1,n)::(P1++R))=_;rw[HU hgp];exact a3 R
def a5C (s:pD):Prop:= ∃G,sP s=G++[(4,[])]/\∀t∈G,sX t=true
theorem aDL {w u:pD}(hw: ∀b∈w,blk b=true) (hu:u=[]\/u.head? =some 60) (h:a5C u):a5C (w++u):=by
 by_cases hn:w=[]
 .subst hn;exact h
 .have hf:=UL hn (fun b hb=>a5z (hw b hb)) hu;obtain⟨G,h1,h2⟩:=h;refine⟨(3,w)::G,?_,fun t ht=> ?_⟩
  .rw[G9 (by simp [hn]) (by rw[hf];simp),hf,aNq,h1];rfl
  .rcases aL3.1 ht with rfl|ht
   .exact a5A hw
   .exact h2 t ht
theorem aJv {g:pD}(hg:w4 g): ∀{w:pD},(∀b∈w,blk b=true)->a5C (w++g):=by
 induction hg with
 |nil=>intro w hw;exact aDL hw (.inl rfl) ⟨[],rfl,fun t ht=>(by cases ht)⟩
 |blank hb _ ih=>
  rename_i b g _;intro w hw;have:=ih (w:=w++[b]) fun c hc=>by
   rcases aML.1 hc with hc|hc
   .exact hw c hc
   .rw[aL6.1 hc];exact hb
  rw[aLV] at this;exact this
 |note h1 h2 h3 _ ih=>
  rename_i n g _;intro w hw;have hh:(n++g).head? =some 60:=by
   cases n with
   |nil=>cases h2
   |cons b r=>exact h2
  refine aDL hw (.inr hh) ?_;obtain⟨G,e1,e2⟩:=ih (w:=[]) (fun b hb=>by cases hb);refine⟨(1,n)::G,?_,fun t ht=> ?_⟩
  .rw[G9 (by simp [h1]) (by rw[h3];simp),h3,aNq];rw[List.nil_append] at e1;rw[e1];rfl
  .rcases aL3.1 ht with rfl|ht
   .rfl
   .exact e2 t ht
theorem aJw {w g:pD}(hw: ∀b∈w,blk b=true) (hg:w4 g):w4 (w++g):=by
 induction w with
 |nil=>exact hg
 |cons b w ih=>exact .blank (hw b aL7) (ih fun c hc=>hw c (aL5 _ hc))
theorem aDM: ∀(G:List TE) (e:pD),sP e=G++[(4,[])]->(∀t∈G,sX t=true)->w4 e
 |G,[],_,_=> .nil
 |[],b::e,h,_=>by
  have hne:b::e≠[]:=by simp
  by_cases h0:(rM (b::e)).1=0
  .rw[MM hne h0] at h;injection h with h _
   rw[h] at h0;simp at h0
  .rw[G9 hne h0] at h;injection h with h _
   have:=UM hne h0;rw[h] at this;simp at this
 |t::G,b::e,h,hg=>by
  have hne:b::e≠[]:=by simp
  have h0:(rM (b::e)).1≠0:=by
   intro h0;rw[MM hne h0] at h;have:=aL9 List.length h;simp at this
  have hsp:=a5r h0;have hlx:=h;rw[G9 hne h0] at h;injection h with e1 e2
  have e2:sP ((b::e).drop (rM (b::e)).2.length)=G++[(4,[])]:=e2;have ih:=aDM G _ e2 (fun t ht=>hg t (aL5 _ ht));have hgt:=hg t aL7;rw[<-e1] at hgt;rw[hsp];rcases UM hne h0 with k|k|k
  .have hp:=(K0 hne).2.1 h0;have hnb:(rM (b::e)).2≠[]:=aMn.1 hp;have hh:(rM (b::e)).2.head? =some 60:=by
    have h60:=a5x (a5v k).1;cases hq:(rM (b::e)).2 with
    |nil=>exact absurd hq hnb
    |cons c q=>rw[hsp,hq] at h60;exact h60
   refine .note hnb hh (fun u=> ?_) ih;rw[a5w k u];exact Prod.ext k rfl
  .unfold sX at hgt;rw[k] at hgt;simp at hgt
  .have:sX (3,(rM (b::e)).2)=true:=by
    have e3:rM (b::e)=(3,(rM (b::e)).2):=Prod.ext k rfl;rw[<-e3];exact hgt
   exact aJw (aDK this) ih
 termination_by G=>G.length
end
noncomputable section
theorem aJx {A B:List TE}(h:qU A=qU B):B7 A=B7 B:=by unfold B7;rw[h]
theorem aJy {A B:List TE}(h:qU A=qU B) (hB:AH B):AH A:=by unfold AH;rw[h];exact hB
theorem aJz {H:List TE}{tag:pD}{st:G4}(h:G8 H tag st) (hs:xK H):K1 H:=by
 refine⟨hs,h.lst,?_⟩;have hr:=h.rd [];rw[List.append_nil] at hr;unfold B7 at hr;split at hr
 .rename_i hc;exact MK (L:=qU H) (by rw[hc.2.1];decide)
 .cases hr
theorem aJA {P:List TE}{y:rW}(h:ML P y) (hs:xK P):K1 P:=by
 refine⟨hs,h.lst,?_⟩;obtain⟨_,hx⟩:=h.rd [] [] rfl pI;rw[List.append_nil] at hx;unfold xJ at hx;split at hx
 .rename_i hc;exact MK (L:=qU P) (by rw[hc.2.1];decide)
 .cases hx
theorem aJB {H:List TE}{tag:pD}{st:G4}{g:pD}(hg:w4 g) (h:G8 H tag st) (hs:xK H): ∃H',G8 H' tag st/\xK H'/\sL H'=g++sL H:=by
 obtain⟨P',h1,h2,h3⟩:=a5B hg (aJz h hs);exact⟨P',⟨h1.lst,h.tagk,h.com,h.fld,fun R=>by rw[aJx (h3 R)];exact h.rd R⟩,h1.seg,h2⟩
theorem aJC {P:List TE}{y:rW}{g:pD}(hg:w4 g) (h:ML P y) (hs:xK P): ∃P',ML P' y/\xK P'/\sL P'=g++sL P:=by
 obtain⟨P',h1,h2,h3⟩:=a5B hg (aJA h hs);exact⟨P',⟨h1.lst,h.ok,fun es R e1 e2=>by rw[h3 R];exact h.rd es R e1 e2⟩,h1.seg,h2⟩
theorem aDN {tl:pD}(h:AH (sP tl)): ∃P R u,sP tl=P++R/\R≠[]/\K1 P/\tl=sL P++u/\sP u=R/\(∃r3,uC zU (qU R)=some r3/\(qU r3).head?.map (·.1)=some 4)/\(∀X,qU (P++X)=(qU P)++X)/\∃t,qU P=[t]/\uC yC [t]=some []/\(uV t).1=3:=by
 obtain⟨r2,r3,k1,k2,k3⟩:=aDq h.2;obtain⟨t,ht,ht2,hnd⟩:=Q6 k1;have ht':qU (sP tl)=[t]++r2:=ht;obtain⟨g1,g2⟩:=G7 (sP tl) [t] r2 ht' pI;have hR:r2≠[]:=by
  rintro rfl;have:qU ([]:List TE)=[]:=rfl;rw[this] at k2;cases k2
 have hl:tH ((sP tl).takeWhile sX++[t]):=tH.app (tH.one ht2);have hsp:sP tl=((sP tl).takeWhile sX++[t])++r2:=by rw[aLV];exact g1
 have hseg:=Q7 _ _ _ hsp hR hl;obtain⟨u,e1,e2⟩:=MN _ _ _ hsp hR;have hsk:qU ((sP tl).takeWhile sX++[t])=[t]:=by
  have:=g2 [];rwa [List.append_nil] at this
 have h3:(uV t).1=3:=by
  have:=h.1;rw[ht] at this;exact this
 have hndt:=hnd [];exact⟨_,r2,u,hsp,hR,⟨hseg,hl,t,[],hsk,ht2⟩,e1,e2,⟨r3,k2,k3⟩,fun X=>aJt ⟨t,[],hsk,ht2⟩ X,t,hsk,hndt,h3⟩
theorem aJD {tl g:pD}(hg:w4 g) (h:AH (sP tl)):AH (sP (g++tl)):=by
 obtain⟨P,R,u,h1,h2,h3,h4,h5,_⟩:=aDN h;obtain⟨P',f1,f2,f3⟩:=a5B hg h3;have e:g++tl=sL P'++u:=by rw[f2,h4,aLV]
 rw[e,MO P' f1.seg,h5];refine aJy (f3 R) ?_;rw[<-h1];exact h
theorem aJE {e:pD}{A q:List TE}{x:pD}(h:sP e=A++((4,x)::q)):(4,x)::q=[((4,[]):TE)]:=by
 obtain⟨u,_,h2⟩:=MN A _ e h pI;by_cases hu:u=[]
 .subst hu;rw[UJ] at h2;exact h2.symm
 .by_cases h0:(rM u).1=0
  .rw[MM hu h0] at h2;injection h2 with h2 _
   rw[h2] at h0;simp at h0
  .rw[G9 hu h0] at h2;injection h2 with h2 _
   have:=UM hu h0;rw[h2] at this;simp at this
theorem aJF {tl g:pD}(hg:w4 g) (h:AH (sP tl)):AH (sP (tl++g)):=by
 obtain⟨P,R,u,h1,h2,h3,h4,h5,⟨r3,k2,k3⟩,h6,t,hsk,hnd,h33⟩:=aDN h;obtain⟨v,hv,hv2,hvn⟩:=Q6 k2;have hv':qU R=[v]++r3:=hv;obtain⟨g1,g2⟩:=G7 R [v] r3 hv' pI;have hr3:r3≠[]:=by
  rintro rfl;have:qU ([]:List TE)=[]:=rfl;rw[this] at k3;simp at k3
 have hl:tH (R.takeWhile sX++[v]):=tH.app (tH.one hv2);have hsp:sP u=(R.takeWhile sX++[v])++r3:=by rw[h5,aLV];exact g1
 have hseg:=Q7 _ _ _ hsp hr3 hl;obtain⟨e,e1,e2⟩:=MN _ _ _ hsp hr3;have hge:w4 e:=by
  cases hq:qU r3 with
  |nil=>rw[hq] at k3;simp at k3
  |cons z q=>
   rw[hq] at k3;have hz:z.1=4:=by simpa using k3
   have hr:r3=r3.takeWhile sX++(z::q):=by rw[<-hq];exact(List.takeWhile_append_dropWhile).symm
   obtain⟨n,x⟩:=z;have hz:n=4:=hz;subst hz;have h4:=aJE (e:=e) (A:=r3.takeWhile sX) (x:=x) (q:=q) (by rw[e2];exact hr);rw[h4] at hr;exact aDM (r3.takeWhile sX) e (by rw[e2];exact hr) (fun t ht=>aMB.1 (List.all_takeWhile) t ht)
 obtain⟨G,a1,a2⟩:=aJv (hge.app hg) (w:=[]) (fun b hb=>by cases hb);rw[List.nil_append] at a1;have hx:tl++g=sL P++(sL (R.takeWhile sX++[v])++(e++g)):=by
  rw[h4,e1];simp only[aLV]
 have hlx:sP (tl++g)=P++((R.takeWhile sX++[v])++(G++[(4,[])])):=by
  rw[hx,MO P h3.seg,MO _ hseg,a1]
 have hs1:qU (sP (tl++g))=t::((R.takeWhile sX++[v])++(G++[(4,[])])):=by rw[hlx,h6,hsk];rfl
 have hs2:qU ((R.takeWhile sX++[v])++(G++[(4,[])]))=v::(G++[(4,[])]):=by
  rw[aLV,g2];rfl
 have hs3:qU (G++[(4,[])])=[(4,[])]:=by
  unfold qU;rw[List.dropWhile_append_of_pos a2];rfl
 have hn1:uC yC (t::((R.takeWhile sX++[v])++(G++[(4,[])])))=some ((R.takeWhile sX++[v])++(G++[(4,[])])):=by
  rw[a5n] at hnd|-;by_cases hc:(uV t).1=3/\(uV t).2.1=yC
  .rw[aLQ hc]
  .rw[aLU hc] at hnd;cases hnd
 refine⟨?_,?_⟩
 .rw[hs1];exact h33
 .rw[hs1,Q3 hn1 (by rw[hs2];exact hvn _),hs3];rfl
end
noncomputable section
def HV:pE:=[([32]:pD),([10]:pD),([9]:pD),([13]:pD),([60,33,45,45,32,97,32,60,32,34,32,62,32,45,45,62]:pD),([60,33,45,45,45,45,62]:pD),([60,33,45,45,126,45,45,62]:pD)]
theorem UO {b:UInt8}(h:blk b=true):w4 [b]:= .blank h .nil
theorem a5D {n:pD}{i:Nat}(hn:n=n.take (i+7)) (h7:i+7<=n.length) (h1:xG n=true) (h2:Lib.index (n.drop 4) CO=i):w4 n:=by
 have hf:rM n=(1,n):=by
  have:=a5u h1 h2;rw[<-hn] at this;exact this
 have hne:n≠[]:=by
  rintro rfl;simp at h7
 have:=w4.note (n:=n) (w:=[]) hne (a5x h1) (fun u=>by
  have:=a5w (s:=n) (by rw[hf]) u;rw[hf] at this;exact this) .nil
 rwa [List.append_nil] at this
theorem aJG: ∀u∈HV,w4 u/\u.length<=16:=by
 intro u hu;unfold HV at hu;simp only[aL3,aNi,or_false] at hu;rcases hu with rfl|rfl|rfl|rfl|rfl|rfl|rfl
 .exact⟨UO pH,pH⟩
 .exact⟨UO pH,pH⟩
 .exact⟨UO pH,pH⟩
 .exact⟨UO pH,pH⟩
 .exact⟨a5D (i:=9) rfl pH pU pU,pH⟩
 .exact⟨a5D (i:=0) rfl pH pU pU,pH⟩
 .exact⟨a5D (i:=1) rfl pH pU pU,pH⟩
theorem aDO {gs:pM}(hg: ∀x∈gs,0<=x/\x<65536) (hl:gs.length<=10): ∀(n i:Nat) (g:pD),i+n=gs.length->w4 g->g.length<=16*i->∃r,rX (JS gs) (g,(i:Int))=some r/\w4 r/\r.length<=160
 |0,i,g,hn,h1,h2=>by
  refine⟨g,vF ?_,h1,pG⟩;unfold JS;dsimp only;rw[aLU pJ]
 |n+1,i,g,hn,h1,h2=>by
  have hi:i<gs.length:=by omega
  obtain⟨a0,a1⟩:=hg _ (aM4 hi);obtain⟨k,hk,hke⟩:=aDI (n:=HV.length) a0 a1 pH;obtain⟨b1,b2⟩:=aJG _ (aM4 hk);have hst:JS gs (g,(i:Int))=some (.inl (g++HV[k],((i+1:Nat):Int))):=by
   unfold JS;dsimp only;have hnth:qW (.int .u8) gs (i:Int)=gs[i]:=BZ (t:= .int .u8) hi;have e: ∀(z:Int),(Int.tmod (IntKind.wrap .i64 z) (List.length ([([32]:pD),([10]:pD),([9]:pD),([13]:pD),([60,33,45,45,32,97,32,60,32,34,32,62,32,45,45,62]:pD),([60,33,45,45,45,45,62]:pD),([60,33,45,45,126,45,45,62]:pD)]:pE):Int))=Int.tmod (IntKind.wrap .i64 z) (List.length HV:Int):=fun _=>rfl;rw[aLQ (wJ hi),aLQ (uK hi),hnth,e,hke];have hn2:qW .str ([([32]:pD),([10]:pD),([9]:pD),([13]:pD),([60,33,45,45,32,97,32,60,32,34,32,62,32,45,45,62]:pD),([60,33,45,45,45,45,62]:pD),([60,33,45,45,126,45,45,62]:pD)]:pE) (k:Int)=HV[k]:=BZ (t:= .str) (l:=HV) hk;rw[hn2,aLQ pH,aLQ ⟨Int.natCast_nonneg _,by
    show (k:Int)<(HV.length:Int);omega⟩,aLQ (by rw[aLT];omega),aLQ (xW pG)]
   rfl
  rw[vN hst];exact aDO hg hl n (i+1) _ pG (h1.app b1) (by rw[aLT];omega)
theorem aDP (k:Nat): ∀(l:List (Int×pD)) (off:Nat),(∀j x,l[j]? =some x->x.1=((off+j:Nat):Int))->∀y,off<=k->l[k-off]? =some y->xF (TR (k:Int)) l ()=some (.inr (y.2,true))
 |[],off,_,y,_,h=>by simp at h
 |it::r,off,hx,y,hk,h=>by
  have h0:=hx 0 it rfl;rw[aM7] at h0;unfold xF TR;by_cases he:off=k
  .subst he;rw[aNE] at h;cases h;rw[aLQ (by rw[h0];simp)];rfl
  .rw[aLU (by rw[h0];simp;omega),aLP];have hd:k-off=(k- (off+1))+1:=by omega
   rw[hd,aMx] at h;exact aDP k r (off+1) (fun j x hj=>by
    have:=hx (j+1) x (by rw[aMx];exact hj);rw[this];congr 1;omega) y pG h
theorem aJH (d:yH): ∀(j:Nat) (x:Int×pD),(z6 d)[j]? =some x->x.1=((0+j:Nat):Int):=by
 intro j x h;cases j with
 |zero=>
  rw[YK] at h;cases h;rfl
 |succ j=>
  by_cases hj:j<d.2.1.length
  .rw[YL d hj] at h;cases h;show (j:Int)+1=_;omega
  .have hlen:=(aL1.1 h).1;rw[a9a] at hlen;have:j=d.2.1.length:=by omega
   subst this;have hl:=YM d;rw[hl] at h;cases h;show (d.2.1.length:Int)+1=_;omega
theorem a5E (d:yH) (k:Nat) (y:Int×pD) (hl:d.2.1.length<=900000) (h:(z6 d)[k]? =some y):FQ d (k:Int)=some (y.2,true):=by
 unfold FQ;rw[aLQ pG,aDP k (z6 d) 0 (aJH d) y (aMR _) (by rw[Nat.sub_zero];exact h)];rfl
theorem aJI {x:pD}{ts:pE}(h:x∈ts):x.length<=ts.flatten.length:=by
 obtain⟨p,q,rfl⟩:=List.append_of_mem h;simp only[List.flatten_append,aMD,aLT];omega
structure Q9 (c:C4) (h:pD) (ts:pE) (t:pD):Prop where
 ex: ∃H Ps,sL H=h/\Ps.map sL=ts/\G8 H c.1 (c.2.1,c.2.2.1)/\zV Ps c.2.2.2.1/\xK H/\∀P∈Ps,xK P
 inv:CJ c.2.2.2.1
 tl:AH (sP t)
theorem aDQ {c:C4}{h:pD}{ts:pE}{t:pD}(hb:Q9 c h ts t) (hl:(xY h ts t).length<=900000000):wQ (xY h ts t)=some (c.1,c.2.1,c.2.2.1,c.2.2.2.1,0,0):=by
 obtain⟨⟨H,Ps,rfl,rfl,h1,h2,h3,h4⟩,h5,h6⟩:=hb;exact aJs h1 h2 h5 h6 h3 h4 hl
theorem aDR: ∀{Ps:List (List TE)}{ys:List rW}{j:Nat}(hj:j<Ps.length),zV Ps ys->∃y,ML Ps[j] y/\ys.set j y=ys
 |_::_,_::_,0,_,.cons h1 _=>⟨_,h1,rfl⟩
 |_::Ps,_::ys,j+1,hj,.cons _ h2=>by
  obtain⟨y,h3,h4⟩:=aDR (j:=j) (by simpa using hj) h2;exact⟨y,h3,by rw[List.set_cons_succ,h4]⟩
theorem aJJ {c:C4}{h t g:pD}{ts:pE}{k:Nat}(hg:w4 g) (hb:Q9 c h ts t) (hk:k<ts.length+2) (hl:ts.length<=900000):
  ∃x h' ts' t',FQ (h,(ts,(t,()))) (k:Int)=some (x,true)/\x.length<=(xY h ts t).length/\DE (h,(ts,(t,()))) (k:Int) (g++x)=some (h',ts',t',0)/\Q9 c h' ts' t'/\ts'.length=ts.length/\(xY h' ts' t').length<=(xY h ts t).length+(g++x).length:=by
 have hw: ∀x:pD,DE (h,(ts,(t,()))) (k:Int) x=(DD h (t,()) (k:Int) x ts).bind fun r=>some (r.1,r.2.2,r.2.1,(0:Int)):=fun x=>by
  unfold DE wY;dsimp only;rw[aLQ (fun _=>by unfold qE;omega),aLU pJ,aLQ pG,aLP,List.nil_append]
 have hlen:(xY h ts t).length=h.length+(ts.flatten.length+t.length):=by unfold xY;simp
 obtain⟨⟨H,Ps,e1,e2,h1,h2,h3,h4⟩,h5,h6⟩:=hb;by_cases h0:k=0
 .subst h0;obtain⟨H',q1,q2,q3⟩:=aJB hg h1 h3;refine⟨h,g++h,ts,t,a5E (h,(ts,(t,()))) 0 _ hl (YK _),pG,?_,⟨⟨H',Ps,by rw[q3,e1],e2,q1,h2,q2,h4⟩,h5,h6⟩,rfl,by unfold xY;simp only[aLT];omega⟩;rw[hw];unfold DD;rw[aLQ pI,aLP]
 .by_cases hk1:k=ts.length+1
  .subst hk1;refine⟨t,h,ts,g++t,a5E (h,(ts,(t,()))) _ _ hl (YM _),pG,?_,⟨⟨H,Ps,e1,e2,h1,h2,h3,h4⟩,h5,aJD hg h6⟩,rfl,by unfold xY;simp only[aLT];omega⟩;rw[hw];unfold DD;rw[aLU pJ,aLQ (by unfold qE;omega),aLQ pI,aLP]
  .obtain⟨j,rfl⟩: ∃j,k=j+1:=⟨k-1,pG⟩;have hj:j<ts.length:=by omega
   have hgt:ts.getD j []=ts[j]:=by rw[aMr,aLZ hj];rfl
   have hjP:j<Ps.length:=by rw[<-e2,aMM] at hj;exact hj
   obtain⟨y,hy,hset⟩:=aDR hjP h2;obtain⟨P',q1,q2,q3⟩:=aJC hg hy (h4 _ (aM4 hjP));have hs2:=aDJ q1 j h2;rw[hset] at hs2;have htj:ts[j]=sL Ps[j]:=by subst e2;rw[List.getElem_map]
   have hmap:(Ps.set j P').map sL=ts.set j (g++ts[j]):=by rw[List.map_set,q3,<-htj,e2]
   have hxl:=aJI (aM4 hj);have hfl:=aJr (ts:=ts) (x:=g++ts[j]) j;refine⟨ts[j],h,ts.set j (g++ts[j]),t,?_,pG,?_,⟨⟨H,Ps.set j P',e1,hmap,h1,hs2,h3,fun P hP=> ?_⟩,h5,h6⟩,List.length_set ..,by unfold xY;simp only[aLT] at hfl|-;omega⟩
   .have:=a5E (h,(ts,(t,()))) (j+1) _ hl (YL (h,(ts,(t,()))) hj);rw[this];show some (ts.getD j [],true)=_;rw[hgt]
   .rw[hw];unfold DD;rw[aLU pJ,aLQ (by unfold qE;omega),aLU pJ,aLQ (by unfold qE;omega),aLQ pG,aLP];have:((((j+1:Nat):Int)- (1:Int)).toNat)=j:=by omega
    rw[this]
   .rcases List.mem_or_eq_of_mem_set hP with hP|hP
    .exact h4 P hP
    .rw[hP];exact q2
theorem aJK (s:pD) {a:Int}(h0:0<=a) (h1:a<65536) {gs:pM}(hg: ∀x∈gs,0<=x/\x<65536):JT s a gs=some true:=by
 unfold JT;rw[aI4,aLP,aLU pH];by_cases hA:((decide ((4000:Int)<(List.length s:Int)))||(decide ((10:Int)<(List.length gs:Int))))=true
 .rw[aLQ hA]
 .rw[aLU hA];simp only[aMZ,aMj,not_or] at hA;have hs4:s.length<=4000:=by have:=hA.1;omega
  rcases aJq (s:=s) pG with⟨c,H,Ps,tl,hB,_,p2,p1⟩ |⟨p,e,he,_,g2,g1⟩
  .obtain⟨tag,cms,fds,es,⟨⟩⟩:=c;have p7:EM (tag,(cms,(fds,(es,()))))=true:=hB.ok;have hes:es.length<=1000:=hB.inv.len;have hpl:(Ps.map sL).length=es.length:=by rw[aMM];exact(a5q hB.ents).2
   have hbt:Q9 (tag,(cms,(fds,(es,())))) (sL H) (Ps.map sL) tl:=⟨⟨H,Ps,rfl,rfl,hB.hd,hB.ents,hB.segH,hB.segP⟩,hB.inv,hB.tail⟩;have hbs:xY (sL H) (Ps.map sL) tl=s:=by unfold xY;exact hB.eq.symm
   dsimp only at p2;obtain⟨g,q1,q2,q3⟩:=aDO hg (by have:=hA.2;omega) gs.length 0 [] pG .nil pI;have q1':rX (JS gs) (([]:pD),(0:Int))=some g:=q1;obtain⟨k,hk,hke⟩:=aDI h0 h1 (n:=(Ps.map sL).length+2) pG;have hke':Int.tmod (IntKind.wrap .i64 a) ((List.length (Ps.map sL):Int)+(2:Int))=(k:Int):=by
    rw[<-hke];congr 1
   obtain⟨x,h',ts',t',r1,r2,r3,r4,r7,r8⟩:=aJJ q2 hbt hk pG;rw[hbs] at r2 r8;have hxl:(g++x).length<=4160:=by rw[aLT];omega
   rw[p1,aLP];dsimp only;rw[aLU pI,q1'];unfold t8;rw[aLP,aLQ (by unfold qE;omega),aLQ pG,hke',r1,aLP];dsimp only;rw[aLQ pG,r3,aLP,p2,aLP];dsimp only;have hBl:(xY h' ts' t').length<=900000000:=by omega
   rw[aIp (h',(ts',(t',()))) (by show ts'.length<=_;omega) (by exact aMN hBl pH),aLP];dsimp only;rw[aDQ r4 hBl,aLP];dsimp only;have hb3:s++g=xY (sL H) (Ps.map sL) (tl++g):=by
    rw[<-hbs];unfold xY;simp
   have hB3:(xY (sL H) (Ps.map sL) (tl++g)).length<=900000000:=by
    rw[<-hb3];simp only[aLT];omega
   have hbt3:Q9 (tag,(cms,(fds,(es,())))) (sL H) (Ps.map sL) (tl++g):=⟨hbt.ex,hbt.inv,aJF q2 hbt.tl⟩;rw[aLQ (by simp only[aLT];omega),hb3,aDQ hbt3 hB3,aLP];dsimp only;obtain⟨z1,z2⟩:=aIG p7;dsimp only at z2;rw[z1,aLQ aCj,aLQ aCj,z2];rfl
  .rw[g1,aLP];dsimp only;rw[aLQ (by simp [he])]
end
end Go.Proofs.YtkpflnijijccpaaGreatDoor
namespace Go.Proofs.YtkpflnijijccpaaGreatDoor
open Go.ChangeShapes Go.WideShapes Go.ChangeAt Go.RowKit
section
variable {H:Type}{enc:TypeId×pS->H}{P:Program}
theorem aJL (hl:laidOutB P=true) {W W':pR}(hb:Below W.heap.size W W'):
  ∀{ts:List TypeId}{vs:pN}{ds:List (DataW H)}{ps:List MemPlace},(∀t∈ts,P.readableRec t=true/\t<P.types.size)->
  DataW.TrodAll enc P W 0 (fun _=>true) true ts vs ds ps->(∀x∈ps,x.block<W.heap.size)->
  DataW.TrodAll enc P W' 0 (fun b=>decide (b<W.heap.size)) true ts vs ds ps:=by
 intro ts
 induction ts with
 |nil=>
  intro vs ds ps _ h _;obtain⟨rfl,rfl,rfl⟩:=trodAll_nil h;exact trodAll_mk0
 |cons t ts ih=>
  intro vs ds ps hr h hlt;obtain⟨v,vs',d,ds',p,q,rfl,rfl,rfl,h0,r0⟩:=trodAll_cons h;exact trodAll_cons_mk (Below.trod hl (hr t pI).1 (hr t pI).2 h0 hb (fun x hx=>hlt x (by simp [hx]))) (ih (fun t' ht'=>hr t' (by simp [ht'])) r0 (fun x hx=>hlt x (by simp [hx])))
theorem aJM {f:Func}{s:ChangeSpec}{W W':pR}{args:Array pS}{ds gs:List (DataW H)}{before:List MemPlace}{tb:TypeId}
  (hl:laidOutB P=true) (hr: ∀t∈f.params.toList,P.readableRec t=true/\t<P.types.size)
  (hW:DataW.Whole enc P f.params.toList s.vars false W args.toList ds gs before) (hv:s.vars=[])
  (hfn:s.fn H ds={results:=[.lit (.bool true)],args:=ds}) (hrt:f.resultTypes= #[tb]) (htb:P.underlying tb=some .bool)
  (hb:Below W.heap.size W W'):s.post enc P f false true false false W args (.bool true) W':=by
 have hW':=hW;obtain⟨p,q,hA,hV,rfl,hfz,hnd⟩:=hW;rw[hv] at hV;obtain⟨rfl,rfl⟩:=trodVars_none hV;have hlt: ∀x∈p,x.block<W.heap.size:=fun x hx=>by simpa using hW'.lt x (by simp [hx])
 refine⟨ds,[],p++[],[],p,[],hW',?_,?_,?_,hb.frame _,fun h=>by cases h⟩
 .rw[List.append_nil,hfn,hrt];exact trodAll_mk1 (shut_bool htb true)
 .rw[List.append_nil,hfn];exact aJL hl hb hr hA hlt
 .rw[hv,List.append_nil,hfn];rfl
end
section
variable {H:Type}{enc:TypeId×pS->H}
theorem aJN {C:Checked}{f:FuncId}{fn:Func}{s:ChangeSpec}{tb:TypeId}{GA:List (String×DataW Unit)}(own:ownKnob C.prog.godebug=none) {os:Os}(started:os.Started) (F:Stop.Interp)
  (noInit:C.prog.inits.idxOf? f=none) (hfn:C.prog.funcs[f]? =some fn)
  (hl:laidOutB C.prog=true) (hr: ∀t∈fn.params.toList,C.prog.readableRec t=true/\t<C.prog.types.size) (hv:s.vars=[])
  (hrt:fn.resultTypes= #[tb]) (htb:C.prog.underlying tb=some .bool)
  (hspec: ∀(ds:List (DataW H)) (W:pR) (args:Array pS) ps,DataW.TrodAll enc C.prog W 0 (fun _=>true) true fn.params.toList args.toList ds ps->s.fn H ds={results:=[.lit (.bool true)],args:=ds})
  (witness: ∃(w:pR) (tape:Tape) (i:Input),w.os=os/\(w.forCall tape i).Shaped C.prog/\i.vars=[]/\Input.okWide C.prog (w.forCall tape i) .any w.heap.size f i/\
   (OpenSpec.ofChange s).preRow enc C.prog fn [] false GA (w.forCall tape i).memory i.args/\Assume.holds {} C.prog (lone (Frame.enter C.prog f i.args .normal) [] (w.forCall tape i)))
  (contract: ∀(W:pR) (base:Nat) (args:Array pS) (ds:List (DataW H)) (ps:List MemPlace),
   (∀(j:Nat) t v,fn.params[j]? =some t->args[j]? =some v->Value.okWide C.prog W .any base t v)->
   DataW.TrodAll enc C.prog W 0 (fun _=>true) true fn.params.toList args.toList ds ps->
   (∀x∈ps,x.block<W.heap.size)->(DataW.weightsEach C.prog fn.params.toList ds).all (·<=reachBytes)=true->laidMetH C.prog GA W->W.ShapedOpen C.prog->
   Calls C.prog f args W fun e W'=>e= .returned (.bool true)/\Below W.heap.size W W'):
  ReturnsInHanded {} C os f .any ((OpenSpec.ofChange s).preRow enc C.prog fn [] false GA) (s.post enc C.prog fn false true false false):=by
 refine returnsInHanded_of_row (C:=C) (s:=OpenSpec.ofChange s) (F:=F) own started noInit hfn witness ?_;intro W base args ds gs before hval hW _ _ hsz hL hsh _;have hW':=hW;obtain⟨p,q,hA,hV,rfl,hfz,hnd⟩:=hW;have hV':DataW.TrodVars enc C.prog W (fun _=>true) s.vars gs q:=hV;rw[hv] at hV';obtain⟨rfl,rfl⟩:=trodVars_none hV';have hlt: ∀x∈p,x.block<W.heap.size:=fun x hx=>by simpa using hW'.lt x (by simp [hx])
 have hvt:(OpenSpec.ofChange s).bare.plain.varTypes C.prog=[]:=by
  simp [OpenSpec.ofChange,ChangeSpec.plain,hv];rfl
 rw[hvt,List.append_nil,List.append_nil] at hsz;refine(contract W base args ds p hval hA hlt hsz hL hsh).mono fun e W' ⟨he,hb⟩=> ?_;subst he;exact⟨_,rfl,aJM hl hr hW' hv (hspec ds W args p hA) hrt htb hb⟩
end
end Go.Proofs.YtkpflnijijccpaaGreatDoor
namespace Go.Proofs.YtkpflnijijccpaaGreatDoor
open Go.Shelf Go.Lib
open Vc
theorem aJO:(Rows.laid_unicode_utf8_first:DataW Unit)=Lib.firstData:=by kernel_rfl
theorem aJP:(Rows.laid_unicode_utf8_acceptRanges:DataW Unit)=Lib.acceptData:=by kernel_rfl
theorem aJQ:(Rows.laid_strings_asciiSpace:DataW Unit)=Lib.tabData .u8 Lib.asciiSpaceTab:=by kernel_rfl
theorem aJR {P:Program}{w:pR}{g:Nat}{t:TypeId}{k:IntKind}{zero:Array pS}(h:w.ShapedOpen P) (hg:g<P.globals.size)
  (h0:((begin P (fun _ _=>0) default).world.heap[g]?).bind Obj.row? =some (zero,t)) (hz:zero.size=1)
  (hb:P.buildable t=true) (hc:P.cellTypes P.depth t=some [t]) (hu:P.underlying t=some (.int k)): ∃m,w.cell? ⟨g,0,none⟩=some (.int k m):=by
 obtain⟨cs,hh,hs,hr⟩:=h.1 g zero t hg h0;obtain⟨ts,hts,_,hall⟩:=hr hb;rw[hc] at hts;cases hts;have h1:0<cs.size:=by omega
 obtain⟨u,hu',hok⟩:=hall 0 cs[0] (by simp [h1]);have:u=t:=by simpa using hu'.symm
 subst this;have hcell:w.cell? ⟨g,0,none⟩=some cs[0]:=by simp [World.cell?,hh,h1]
 rw[hcell];unfold Cell.ok at hok;rw[hu] at hok;cases hv:cs[0]<;>rw[hv] at hok<;>simp at hok
 rename_i k' m;exact⟨m,by rw[hok.1]⟩
theorem aJS {W:pR}(hsh:W.ShapedOpen Tryz.prog): ∃m,W.cell? ⟨1,0,none⟩=some (.int .i64 m):=
 aJR (t:=3) (zero:= #[.int .i64 0]) hsh (aMv pU) pU rfl pU pU Tryz.underlying3
def aJT:Ren:=⟨fun x=>x,fun x=>if x=5 then 5 else if x=119 then 182 else if x=138 then 229 else 230,fun x=>if x=3 then 3 else 4⟩
theorem aJU {w:pR}{a:Addr}{v:pS}(h:w.cell? a=some v):a.block<w.heap.size:=by
 unfold World.cell? at h;split at h
 .rename_i hb;exact(aMi.1 hb).1
 .cases h
theorem aJV {P:Program}{w:pR}{n:String}{g:Nat}{cs:Array pS}(hg:P.globalNamed n=some g) (h:w.var? P n=some cs): ∃e fz,w.heap[g]? =some (.cells cs e fz):=by
 unfold World.var? at h;rw[hg,aLP] at h;split at h
 .rename_i cs' e fz hh;cases h;exact⟨e,fz,hh⟩
 .cases h
theorem aJW {W:pR}(hL:laidMet Tryz.prog Rows.elementsFreeRow.laid W) (hsh:W.ShapedOpen Tryz.prog):CP W:=by
 obtain⟨m,hm⟩:=aJS hsh;have h1:=laidMet.reads hL (.head _);have hs:=laidMet.reads hL (.tail _ (.tail _ (.head _)));have h2:=laidMet.reads hL (.tail _ (.tail _ (.tail _ (.head _))));rw[aJQ] at hs;rw[aJO] at h2;rw[aJP] at h1;have hU:Lib.Utf8Tabs 3 4 W:=utf8Tabs_of_readsT (ρ:=aJT) ⟨pU,pU,pU,pU⟩ ⟨pU,pU,pU,pU,pU,pU,pU⟩ h2 h1;have hS: ∃e fz,W.heap[0]? =some (.cells (Lib.asciiSpaceTab.map fun z=>Value.int .u8 z).toArray e fz):=by
  obtain⟨g,t,cs,fuel,p,hg,ht,hv,hd⟩:=hs;have hg0:Tryz.prog.globalNamed "strings.asciiSpace" =some 0:=by kernel_rfl
  have ht0:(Tryz.prog.globals[0]?).map (·.type)=some 182:=by kernel_rfl
  obtain rfl:=aLS (hg0.symm.trans hg);obtain rfl:=aLS (ht0.symm.trans ht);have hc:=cells_of_tab Tryz.underlying182 Tryz.underlying5 pU pU hd;rw[<-hc];exact aJV hg hv
 refine⟨?_,hU,⟨m,hm⟩,fun x hx=> ?_⟩
 .have b2:4<W.heap.size:=aJU (hU.2 0 pH).1;show 5<=W.heap.size;omega
 .unfold a5J at hx;simp only[aL3,aNi,or_false] at hx;rcases hx with rfl
  exact⟨pH,hS⟩
noncomputable def UP (os:Os):pR:=
 let N:=(World.settled Tryz.prog os).heap.size
 let w0:=World.holding Tryz.prog os ⟨#[.cells (Lib.whiteT.map fun(z:Nat)=>Value.int .u16 (z:Int)).toArray 241,.cells #[.slice (some ⟨N,0,none⟩) 7 7,.slice none 0 0,.int .i64 2] 238],#[],[]⟩
 let u7 (h:Array Obj) (g:Nat) (cs:Array pS):Array Obj:=h.modify g fun
  | .cells _ t frozen=> .cells cs t frozen
  |o=>o
 let h1:=u7 w0.heap 3 (Lib.firstTab.map fun z=>Value.int .u8 z).toArray
 let h2:=u7 h1 4 ((List.range 16).flatMap fun i=>[Value.int .u8 (Lib.accLo i),Value.int .u8 (Lib.accHi i)]).toArray
 let h6:=u7 h2 0 (Lib.asciiSpaceTab.map fun z=>Value.int .u8 z).toArray
 let h7:=u7 h6 2 #[.pointer (some ⟨N+1,0,none⟩)]
 {w0 with heap:=h7}
theorem aJX (os:Os) (args:Array pS):laidMet Tryz.prog Rows.elementsFreeRow.laid ((UP os).forCall (fun _ _=>0) ⟨#[],args,[]⟩).memory:=
 laidMet_of_run3 10 pU pU pU
end Go.Proofs.YtkpflnijijccpaaGreatDoor
namespace Go.Proofs.YtkpflnijijccpaaGreatDoor
open Vc Go.RowKit
inductive a5F where
 |ty (t:TypeId) |fs (o:Nat) (l:List Field)
inductive zW (P:Program):a5F->Ty->Prop
 |bool {t}:P.underlying t=some .bool->zW P (.ty t) .bool
 |int {t k}:P.underlying t=some (.int k)->zW P (.ty t) (.int k)
 |str {t}:P.underlying t=some .string->zW P (.ty t) .str
 |list {t e u}:P.underlying t=some (.slice e)->P.cellsOf e=u.cells->0<u.cells->0<P.bytesOf e->zW P (.ty e) u->zW P (.ty t) (.list u)
 |struct {t fs ty}:ty.isRow=true->P.underlying t=some (.struct fs)->P.cellsOf t=ty.cells->zW P (.fs 0 fs.toList) ty->zW P (.ty t) ty
 |nil {o}:zW P (.fs o []) .unit
 |cons {o}{f:Field}{r a b}:f.offset=o->P.cellsOf f.type=a.cells->zW P (.ty f.type) a->zW P (.fs (o+a.cells) r) b->zW P (.fs o (f::r)) (.pair a b)
def Bd:(t:Ty)->t.den->Prop
 | .str,s=>List.length s<=140737488351232
 | .int k,n=>(Lit.int k n).wf=true
 | .list u,l=>List.length l<=140737488351232/\∀x:u.den,x∈(l:List u.den)->Bd u x
 | .pair a b,x=>Bd a x.1/\Bd b x.2
 |_,_=>True
def ER (w:pR):Gh:=⟨fun b _=>b<w.heap.size,fun _=>none,fun _ _=>none⟩
theorem aDS {α:Type}{R:α->pN->Prop}{w:pR}{S:Nat->Nat->Prop}{c b:Nat}: ∀{l:List α}{o:Nat},(∀i x,l[i]? =some x->∃cs,cs.length=c/\w.rangeAt b (o+i*c) cs/\(∀j,j<c->S b (o+i*c+j))/\R x cs)->y4 R w S c b o l
 |[],_,_=>trivial
 |x::l,o,h=>by
  refine⟨?_,aDS fun i y hy=> ?_⟩
  .obtain⟨cs,h1,h2,h3,h4⟩:=h 0 x rfl;exact⟨cs,h1,by simpa using h2,by simpa using h3,h4⟩
  .obtain⟨cs,h1,h2,h3,h4⟩:=h (i+1) y (by simpa using hy);have e:o+(i+1)*c=o+c+i*c:=by rw[aMX];omega
   exact⟨cs,h1,by rw[<-e];exact h2,by rw[<-e];exact h3,h4⟩
section
variable {H:Type}{enc:TypeId×pS->H}{P:Program}{W:pR}
theorem aDT {e:TypeId}: ∀{l:List (DataW H)}{i:Nat}{d:DataW H},l[i]? =some d->∀n∈d.weights P e,n∈DataW.weightsAll P e l
 |d0::l,0,d,h,n,hn=>by
  simp only[aMm,aLO] at h;subst h;simp only[DataW.weightsAll,aML];exact .inl hn
 |d0::l,i+1,d,h,n,hn=>by
  simp only[aMx] at h;simp only[DataW.weightsAll,aML];exact .inr (aDT h n hn)
 |[],_,_,h,_,_=>by simp at h
def aJY (enc:TypeId×pS->H) (P:Program) (W:pR):a5F->Ty->Prop
 | .ty t,u=> ∀(fuel:Nat) (cs:pN) (y:DataW H×List MemPlace),DataW.trod enc P W 0 (fun _=>true) true fuel t cs=some y->(∀n∈y.1.weights P t,n<=reachBytes)->∃x:u.den,Rd (ER W) W u x cs/\Bd u x
 | .fs o l,u=> ∀(fuel:Nat) (cs:pN) (xs:List (DataW H×List MemPlace)),cs.length=o+u.cells->xs.length=l.length->(∀(i:Nat) (f:Field),l[i]? =some f->DataW.trod enc P W 0 (fun _=>true) true fuel f.type ((cs.drop f.offset).take (P.cellsOf f.type))=xs[i]?)->(∀n∈DataW.weightsEach P (l.map (·.type)) (xs.map (·.1)),n<=reachBytes)->∃x:u.den,Rd (ER W) W u x (cs.drop o)/\Bd u x
theorem aJZ {e:TypeId}{u:Ty}{a:Addr}{len cap:Nat}(hc:P.cellsOf e=u.cells) (hpos:0<u.cells) (hcap:len<=cap)
  (each: ∀i,i<len->∃(cs:pN) (x:u.den),W.cells? 0 (a.add (i*u.cells)) u.cells=some cs/\Rd (ER W) W u x cs/\Bd u x):
  ∃l:List u.den,l.length=len/\Rd (ER W) W (.list u) l [.slice (some a) len cap]/\∀x∈l,Bd u x:=by
 have build: ∀k,k<=len->∃l:List u.den,l.length=k/\∀i x,l[i]? =some x->∃cs:pN,W.cells? 0 (a.add (i*u.cells)) u.cells=some cs/\Rd (ER W) W u x cs/\Bd u x:=by
  intro k
  induction k with
  |zero=>intro _;exact⟨[],rfl,fun i x h=>by simp at h⟩
  |succ k ih=>
   intro hk;obtain⟨l,h1,h2⟩:=ih pG;obtain⟨cs,x,h3,h4⟩:=each k pG;refine⟨l++[x],by simp [h1],fun i y hy=> ?_⟩;rw[List.getElem?_append] at hy;split at hy
   .exact h2 i y hy
   .rename_i hi;obtain⟨j,hj⟩: ∃j,i=l.length+j:=⟨i-l.length,pG⟩;subst hj;rw[aMC] at hy;cases j with
    |zero=>
     simp only[aMm,aLO] at hy;subst hy;exact⟨cs,by rw[aM7,h1];exact h3,h4⟩
    |succ j=>simp at hy
 obtain⟨l,hll,hle⟩:=build len (aMc _);refine⟨l,hll,?_,fun x hx=> ?_⟩
 .subst hll;by_cases hl0:l=[]
  .subst hl0;exact⟨some a,cap,rfl,hcap,.inl rfl⟩
  .obtain⟨b,off,spot⟩:=a;have hlp:0<l.length:=aMn.2 hl0;have hspot:spot=none:=by
    obtain⟨cs,x,h3,_⟩:=each 0 hlp;have h4:=(World.cells?_some h3).2.2 0 hpos;have hlen0:=(World.cells?_some h3).2.1;rw[aLZ pG] at h4;simpa[Addr.add] using World.cell?_spot h4
   subst hspot;refine⟨_,cap,rfl,hcap,.inr ⟨b,off,rfl,aDS fun i x hx=> ?_⟩⟩;obtain⟨cs,h3,h4,_⟩:=hle i x hx;obtain⟨_,h5,h6⟩:=World.cells?_some h3;have hcell: ∀j v,cs[j]? =some v->W.cell? ⟨b,off+i*u.cells+j,none⟩=some v:=by
    intro j v hv;have hj:j<u.cells:=by have:=(aL1.1 hv).1;omega
    have:=h6 j hj;rw[hv] at this;rw[aNx,aNx] at this;exact this
   refine⟨cs,h5,hcell,fun j hj=> ?_,h4⟩;exact Vc.RY (hcell 0 _ (aLZ pG))
 .obtain⟨i,hi,he⟩:=aND hx;obtain⟨cs,h3,h4,h5⟩:=hle i x (by rw[aLZ hi,he]);exact h5
theorem aJ0 {ix:a5F}{u:Ty}(h:zW P ix u):aJY enc P W ix u:=by
 induction h with
 |bool ht=>
  intro fuel cs y hy _;obtain⟨b,rfl,_⟩:=DataW.trod_bool ht hy;exact⟨b,rfl,trivial⟩
 |int ht=>
  intro fuel cs y hy _;obtain⟨n,rfl,_,hw⟩:=DataW.trod_int ht hy;exact⟨n,rfl,hw⟩
 |str ht=>
  intro fuel cs y hy hw;obtain⟨s,rfl,rfl,_⟩:=DataW.trod_string ht hy;refine⟨s.data.toList,by show [Value.string s]=[Value.string ⟨s.data.toList.toArray⟩];rw[aNe],?_⟩;exact hw _ (by simp [DataW.weights])
 | @list t e u ht hc hpos hb _ ih=>
  intro fuel cs y hy hw;rcases DataW.trod_slice ht hy with⟨rfl,_⟩ |⟨a,len,cap,elems,rest,n,_,rfl,rfl,_,hl,_,hlen,hall,_,_⟩
  .exact⟨[],⟨none,0,rfl,aMc _,.inl rfl⟩,by simp,fun x hx=>by cases hx⟩
  .have hws:DataW.weights P t (.slice (elems.map (·.1)) (rest.map (·.1)))=((elems.map (·.1)).length+(rest.map (·.1)).length)*P.bytesOf e::(DataW.weightsAll P e (elems.map (·.1))++DataW.weightsAll P e (rest.map (·.1))):=by
    simp [DataW.weights,ht]
   rw[hws] at hw;have hn:=hw _ aL7;obtain⟨l,h1,h2,h3⟩:=aJZ (W:=W) (a:=a) (cap:=cap) hc hpos hl fun i hi=>by
    have h1:=hall i hi;rw[hc,aLZ pG,Option.bind_eq_some_iff] at h1;obtain⟨cs,h2,h3⟩:=h1;obtain⟨x,hx⟩:=ih n cs _ h3 fun m hm=>hw m (by
     refine aL5 _ (aML.2 (.inl (aDT (i:=i) ?_ m hm)));rw[List.getElem?_map,aLZ pG];rfl)
    exact⟨cs,x,h2,hx⟩
   refine⟨l,h2,?_,h3⟩;have:elems.length<=(elems.length+rest.length)*P.bytesOf e:=by
    calc elems.length<=(elems.length+rest.length)*1:=by omega
     _<=_:=Nat.mul_le_mul_left _ hb
   simp only[aMM] at hn;have hr:reachBytes=140737488351232:=rfl;show l.length<=_;omega
 |struct hrow ht hcl _ ih=>
  intro fuel cs y hy hw;obtain⟨xs,n,rfl,rfl,hl,hlen,hf⟩:=DataW.trod_struct ht hy;have:=ih n cs xs (by rw[hl,hcl];omega) (by rw[hlen];simp) (fun i f hi=>hf i f (by simpa using hi)) fun m hm=>hw m (by simpa[DataW.weights,ht] using hm);rwa [aNb] at this
 |nil=>
  intro fuel cs xs hl _ _ _;refine⟨(),?_,trivial⟩;show cs.drop _=[];exact List.drop_of_length_le (by simp [Ty.cells] at hl;omega)
 | @cons o f r a b ho hc _ _ iha ihb=>
  intro fuel cs xs hl hx hf hw;cases xs with
  |nil=>simp at hx
  |cons x0 xs=>
   have h0:=hf 0 f rfl;rw[hc,ho] at h0;obtain⟨xa,ra,ba⟩:=iha fuel _ x0 h0 fun m hm=>hw m (by simp only[aMQ,DataW.weightsEach,aML];exact .inl hm);obtain⟨xb,rb,bb⟩:=ihb fuel cs xs (by simp only[Ty.cells] at hl;omega) (by simpa using hx) (fun i f' hi=>by have:=hf (i+1) f' (by simpa using hi);simpa using this) fun m hm=>hw m (by simp only[aMQ,DataW.weightsEach,aML];exact .inr hm);refine⟨(xa,xb),⟨_,_,(aNk a.cells (cs.drop o)).symm,ra,?_⟩,ba,bb⟩;rw[aNN];exact rb
theorem a5G {t:TypeId}{u:Ty}{base:Nat}{v:pS}{d:DataW H}{ps:List MemPlace}(h:zW P (.ty t) u) (hok:Value.okWide P W .any base t v) (hT:DataW.Trod enc P W 0 (fun _=>true) true t v d ps) (hw: ∀n∈d.weights P t,n<=reachBytes): ∃x:u.den,tJ (ER W) W u x v/\Bd u x:=by
 obtain⟨fuel,hf⟩:=hT;obtain⟨x,hx,hb⟩:=aJ0 (enc:=enc) (W:=W) h fuel _ _ hf hw;refine⟨x,?_,hb⟩;cases h with
 |bool ht=>obtain⟨b,rfl⟩:=Go.WideShapes.okWide_bool ht hok;exact .inr ⟨rfl,hx⟩
 |int ht=>obtain⟨b,rfl⟩:=Go.WideShapes.okWide_int ht hok;exact .inr ⟨rfl,hx⟩
 |str ht=>obtain⟨b,rfl⟩:=Go.WideShapes.okWide_string ht hok;exact .inr ⟨rfl,hx⟩
 |list ht=>obtain⟨a,l,c,rfl⟩:=Go.WideShapes.okWide_slice ht hok;exact .inr ⟨rfl,hx⟩
 |struct hrow ht=>obtain⟨cs,rfl,_⟩:=Go.WideShapes.okWide_struct ht hok;exact .inl ⟨hrow,cs.toList,by rw[aNe],hx⟩
end
end Go.Proofs.YtkpflnijijccpaaGreatDoor
namespace Go.Proofs.YtkpflnijijccpaaGreatDoor
open Vc
open Go.ChangeShapes Go.WideShapes Go.ChangeAt Go.RowKit
theorem aJ1:zW Tryz.prog (.ty 9) .str:= .str Tryz.underlying9
theorem aDU:zW Tryz.prog (.ty 5) (.int .u8):= .int Tryz.underlying5
theorem aJ2:zW Tryz.prog (.ty 22) (.list (.int .u8)):= .list Tryz.underlying22 pU pH (aMv pU) aDU
theorem a5H {n:Int}(h:Bd (.int .u8) n):0<=n/\n<65536:=by
 have h':(Lit.int .u8 n).wf=true:=h;unfold Lit.wf at h';rw[aMb,aMj,aMj] at h';have h1:(0:Int)<=n:=h'.1;have h2:n<=2^8-1:=h'.2;omega
theorem aJ3 {W:pR}(hT:CP W) (v0 v1 v2:pS) (x0:pD) (x1:Int) (x2:pM) (h0:tJ (ER W) W .str x0 v0) (h1:tJ (ER W) W (.int .u8) x1 v1) (h2:tJ (ER W) W (.list (.int .u8)) x2 v2) (B0:Bd .str x0) (B1:Bd (.int .u8) x1) (B2:Bd (.list (.int .u8)) x2):
  Calls Tryz.prog 3 #[v0,v1,v2] W fun e W'=>e= .returned (.bool true)/\Below W.heap.size W W':=by
 have hC:a4U (PR x0 x1 x2) U3=some (M5 x0 x1 x2):=aH1 _ _ _;have ht:=aJK x0 (a5H B1).1 (a5H B1).2 (gs:=x2) (fun x hx=>a5H (B2.2 x hx));refine(aH3.1.2 (ER W) W (PR x0 x1 x2) [v0,v1,v2] [] _ ⟨(fun i b h=>by cases h),(fun i j bi bj b o _ h=>by cases h),fun b o h=>h,hT,(fun i blk b o h=>by cases h)⟩ ⟨v0,[v1,v2],rfl,⟨h0,trivial⟩,v1,[v2],rfl,⟨h1,trivial⟩,v2,[],rfl,⟨h2,trivial⟩,rfl⟩ hC ?_).mono fun e W' ⟨v,g',he,r⟩=> ?_
 .intro p hp;have:p=((JT x0 x1 x2).isSome=true):=by simpa[M5] using hp
  rw[this,ht];rfl
 .have hv:v= .bool true:=by
   have h1:=r.ret;unfold M5 at h1;rw[ht] at h1;exact vL h1.1
  subst hv;exact⟨he,⟨r.fr.os,r.fr.tape,r.fr.output,r.fr.size,fun k hk=>r.fr.blk k hk (fun o ⟨i,blk,hi,_⟩=>by cases hi)⟩⟩
end Go.Proofs.YtkpflnijijccpaaGreatDoor
namespace Go.Proofs.YtkpflnijijccpaaGreatDoor
open Go.ChangeShapes Go.WideShapes Go.ChangeAt Go.RowKit Go.Lib
theorem aJ4:(Rows.elementsFreeRow.inPlace==Tryz.prog.inPlace 3)=true:=by kernel_rfl
theorem aJ5:(Rows.elementsFreeRow.unfollowed==Tryz.prog.unfollowed 3)=true:=by kernel_rfl
theorem aJ6:(Rows.elementsFreeRow.recurses==Tryz.prog.recurses 3)=true:=by kernel_rfl
theorem aJ7:(Rows.elementsFreeRow.named==Tryz.prog.varsNamed 3)=true:=by kernel_rfl
theorem aJ8:joinedFacts Tryz.prog 3 Tryz.f3 Rows.elementsFreeSpec Rows.elementsFreeRow=true:=by
 unfold joinedFacts;rw[aJ4,aJ5,aJ6,aJ7]
 kernel_rfl
namespace elementsFreeLaw
theorem own:ownKnob Tryz.prog.godebug=none:=by kernel_rfl
theorem GA:laidOutB Tryz.prog=true:=by kernel_rfl
theorem aJ9:Tryz.prog.readableRec 9=true:=by kernel_rfl
theorem aKa:9<Tryz.prog.types.size:=aMv pU
theorem aKb:Tryz.prog.readableRec 5=true:=by kernel_rfl
theorem aKc:5<Tryz.prog.types.size:=aMv pU
theorem aKd:Tryz.prog.readableRec 22=true:=by kernel_rfl
theorem aKe:22<Tryz.prog.types.size:=aMv pU
theorem aKf (os:Os) {H:Type}(enc:TypeId×pS->H):
  (OpenSpec.ofChange Rows.elementsFreeSpec).preRow enc Tryz.prog Tryz.f3 [] false Rows.elementsFreeRow.laid ((UP os).forCall (fun _ _=>0) ⟨#[],#[.string ⟨#[]⟩,.int .u8 0,.slice none 0 0],[]⟩).memory #[.string ⟨#[]⟩,.int .u8 0,.slice none 0 0]:=by
 have hw:(DataW.whole enc Tryz.prog ((UP os).forCall (fun _ _=>0) ⟨#[],#[.string ⟨#[]⟩,.int .u8 0,.slice none 0 0],[]⟩).memory Tryz.f3.params.toList (OpenSpec.ofChange Rows.elementsFreeSpec).vars false #[.string ⟨#[]⟩,.int .u8 0,.slice none 0 0].toList 8).map (fun x=>(x.1,x.2.1))=
   some ([.lit (.string []),.lit (.int .u8 0),.nil],[]):=by kernel_rfl
 obtain⟨⟨x1,x2,x3⟩,hx,hx1⟩:=aLW.1 hw;simp only[aMl] at hx1;obtain⟨rfl,rfl⟩:=hx1;exact OpenSpec.preRow_of_cond 8 hx pU (fun k hk=>by cases hk) pU (aJX os _)
theorem lifted (os:Os) (started:os.Started) (H:Type) (enc:TypeId×pS->H) (F:Stop.Interp):
  ReturnsInHanded {} Tryz.checked os 3 .any ((OpenSpec.ofChange Rows.elementsFreeSpec).preRow enc Tryz.prog Tryz.f3 [] false Rows.elementsFreeRow.laid) (Rows.elementsFreeSpec.post enc Tryz.prog Tryz.f3 false true false false):=by
 refine aJN (C:=Tryz.checked) (tb:=4) own started F pU Tryz.func3 GA ?_ rfl rfl Tryz.underlying4 ?_
  (witness_row_atRef (enc:=enc) (C:=Tryz.checked) false (UP os) #[.string ⟨#[]⟩,.int .u8 0,.slice none 0 0] rfl pU pU pU (aKf os enc)) ?_
 .intro t ht;rw[Tryz.params3] at ht;simp only[aL3,aNi,or_false] at ht;rcases ht with rfl|rfl|rfl
  .exact⟨aJ9,aKa⟩
  .exact⟨aKb,aKc⟩
  .exact⟨aKd,aKe⟩
 .intro ds W args ps h;have h':DataW.TrodAll enc Tryz.prog W 0 (fun _=>true) true Tryz.f3.params.toList args.toList ds ps:=h;rw[Tryz.params3] at h';obtain⟨v0,v1,v2,d0,d1,d2,p0,p1,p2,rfl,rfl,rfl,h0,h1,h2⟩:=trodAll_three h';rfl
 .intro W base args ds ps hval0 hA0 hlt hsz0 hL hsh;have hval: ∀(j:Nat) t v,Tryz.f3.params[j]? =some t->args[j]? =some v->Value.okWide Tryz.prog W .any base t v:=hval0;have hA:DataW.TrodAll enc Tryz.prog W 0 (fun _=>true) true Tryz.f3.params.toList args.toList ds ps:=hA0;have hsz:(DataW.weightsEach Tryz.prog Tryz.f3.params.toList ds).all (·<=reachBytes)=true:=hsz0;rw[Tryz.params3] at hA hval hsz;obtain⟨v0,v1,v2,d0,d1,d2,p0,p1,p2,rfl,rfl,rfl,h0,h1,h2⟩:=trodAll_three hA;obtain⟨x0,g0,B0⟩:=a5G aJ1 (hval 0 9 v0 rfl rfl) h0 (fun n hn=>by
   have:=aMB.1 hsz n (DataW.weights_mem_each (j:=0) rfl rfl n hn);simpa using this)
  obtain⟨x1,g1,B1⟩:=a5G aDU (hval 1 5 v1 rfl rfl) h1 (fun n hn=>by
   have:=aMB.1 hsz n (DataW.weights_mem_each (j:=1) rfl rfl n hn);simpa using this)
  obtain⟨x2,g2,B2⟩:=a5G aJ2 (hval 2 22 v2 rfl rfl) h2 (fun n hn=>by
   have:=aMB.1 hsz n (DataW.weights_mem_each (j:=2) rfl rfl n hn);simpa using this)
  exact aJ3 (aJW hL hsh) v0 v1 v2 x0 x1 x2 g0 g1 g2 B0 B1 B2
end elementsFreeLaw
theorem aDV:Rows.ElementsFreeSaid:=
 OpenClaim.holds_of_wide 3 Tryz.f3 rfl rfl rfl rfl rfl rfl rfl ⟨rfl,rfl,rfl,rfl,rfl⟩ rfl rfl rfl rfl rfl pU Tryz.func3 aJ8
  (aMv pU) (by unfold Func.isWrapper;first|(rw[aLQ (by decide+kernel)];kernel_rfl) |(rw[aLU (by decide+kernel)];exact⟨rfl,rfl⟩))
  (fun os started H enc _=>by rw[OpenClaim.pre_eq_preRow];exact elementsFreeLaw.lifted os started H enc (fun _ _ _=>0))
#print axioms aDV
end Go.Proofs.YtkpflnijijccpaaGreatDoor
namespace Go.Proofs.YtkpflnijijccpaaGreatDoor
open Go
theorem aKg:Rows.elementsFreeRow.wfByText (OpenSpec.ofChange Rows.elementsFreeSpec)=true:=by kernel_rfl
theorem aKh:Tryz.prog.mainIs=some (true, "1008dd62a78bd228180e1c22f450e234c81a9eabf1ab0f49fd7302bf1e97eed2".toList):=by kernel_rfl
theorem aKi:false=Tryz.prog.looks []:=by kernel_rfl
theorem aKj:false=Rows.elementsFreeRow.goesBy Tryz.prog:=by kernel_rfl
theorem aKk:Tryz.prog.funcNamed "calque/calquelaw41.ElementsFree" =some 3:=by kernel_rfl
theorem aKl:([9,5,22].all fun u=> !Tryz.prog.wantsStandIn u)=true:=by kernel_rfl
theorem elementsFreeCard_holds:Rows.ElementsFreeCardSaid:=
 Claim7.holds_tied_plain_at .later [] [.data,.listed,.data,.pinned] true (true, "1008dd62a78bd228180e1c22f450e234c81a9eabf1ab0f49fd7302bf1e97eed2") false
  aDV (fun _ h=>by cases h) aKg (fun _ h=>by cases h) elementsFree_row_tie rfl ⟨rfl,rfl⟩ aKh rfl
  (fun f fn hf hfn=>by
   obtain rfl:f=3:=aLS (aKk.symm.trans hf) |>.symm
   obtain rfl:fn=Tryz.f3:=(aLS (Tryz.func3.symm.trans hfn)).symm;exact⟨aKi,fun j t ht=>by
    rw[Tryz.params3] at ht;have hm:t∈[9,5,22]:=by simpa using Array.mem_of_getElem? ht
    exact(show Tryz.prog.wantsStandIn t=false by simpa using aMB.1 aKl t hm)⟩)
  aKj
#print axioms elementsFreeCard_holds
end Go.Proofs.YtkpflnijijccpaaGreatDoor
