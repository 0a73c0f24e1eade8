/- BlocksWhole returns true for every body (the pieces of a body are the body; the canonical body is split into its canonical pieces): the tied card of the statement, over the row's statement. No condition. -/
/- Packed by a program of mine (wip/tools/pack.py): the same texts with short names and few blanks. -/
import Derived.Deep.CondSized
import Derived.Deep.DeepHandedRow
import Derived.Deep.DeepWitnessRowRef
import Derived.Lib.LaidIn
import Derived.Lib.LaidTab
import Derived.Lib.LaidU8T
import Derived.OpenShut
import Derived.ProofKit
import Derived.SevenTiedAt
import Derived.SizedLaws
import Derived.Test.YtcpbaddnmpeipaaGreatDoorCards
import Derived.Test.YtcpbaddnmpeipaaGreatDoorRows
import Derived.Test.YtcpbaddnmpeipaaGreatDoorTie
import Derived.WalkKit
import Derived.Test.YtcpbaddnmpeipaaGreatDoorY04
set_option linter.defProp false
set_option linter.unusedVariables false
set_option linter.unusedSimpArgs false
set_option linter.unusedSectionVars false
set_option maxRecDepth 100000
set_option maxHeartbeats 4000000
namespace Go.Proofs.YtcpbaddnmpeipaaGreatDoor
open Vc
theorem G7 {p:Prop}{α:Type}{v:α}:p->(some v).isSome=true:=fun _=>rfl
theorem aHc {ρ:Type}{f:Int->Option (Int⊕(Unit⊕ρ))}{n:Nat}(p:Nat->Bool) (g:Nat->ρ)
  (hf: ∀(i:Nat),i<n->f i=if p i=true then some (.inr (.inr (g i))) else some (.inl (i+1)))
  (he:f n=some (.inr (.inl ()))):sF f 0=some (zO (fun k=> .inr (g k)) (.inl ()) ((List.range n).findIdx? p)):=by
 refine S5 (l:=List.range n) p g (fun i h=>?_) (by rw[List.length_range];exact he);have hi:i<n:=by rw[List.length_range] at h;exact h
 rw[List.getElem_range];exact hf i hi
theorem aHd {n:Nat}{p:Nat->Bool}{b:Bool}:uY (some (zO (fun _=>Sum.inr false) (Sum.inl ()) ((List.range n).findIdx? p))) (fun _:Unit=>some b)=some (!((List.range n).any p)&&b):=by
 rw[Y2];cases(List.range n).any p<;>rfl
theorem aPJ (l:pN) (hl:sV l) (hx: ∀x∈l,sV x):C8 l=some (l.any fun x=> !sO x):=by
 unfold sV at hl;have h:=S5 (f:=RS l) (l:=l) (fun x=> !sO x) (fun k=>(k:Int)) (fun i h=>by
  have h1:=MU l[i] (hx _ (aUF h));unfold RS RR;rw[aTr (wR h),aTr (vB h),P0 (t:= .str) h,h1,aTu,aTu,aTr (yE pQ)];rfl) (by
  unfold RS;rw[aTs (A7 _)])
 unfold C8 OR;rw[h,Y5];show some (decide _)=_;rw[aGe]
theorem aHe (l:pN) (hl:sV l) (hx: ∀x∈l,sV x):MN l=some ()/\((decide ((l.length:Int)<=20))&&(!(val (C8 l))))=x8 l:=by
 unfold MN;rw[aPJ l hl hx];exact⟨aTr G7,rfl⟩
theorem aHf {l:pN}{i:Nat}:qV .str l (i:Int)=l.getD i []:=by unfold qV;rw[aUj];rfl
theorem aPK {l:pN}{i:Nat}:qV .str l ((i:Int)-1)=l.getD (i-1) []:=by
 unfold qV;rw[show ((i:Int)-1).toNat=i-1 by omega];rfl
theorem aHg {i:Nat}:decide ((0:Int)<(i:Int))=decide (0<i):=by simp
theorem aPL (l:pN) (hl:sV l):HG l=some (DT l):=by
 unfold sV at hl;have h:=aHc (f:=RB l) (n:=l.length) (Y7 l) (fun _=>false) (fun i h=>by
  unfold RB;rw[aTr (wR h),aTr (vB h),aHf,aPK,Y4,aTu,aHg];have h0: ∀q:Bool,((q==false)&&(decide (0<i)==true))=true->0<i:=fun q hq=>by
   simp only[aTL,aU7,aTN] at hq;exact hq.2
  rw[aTr (fun hq=>by have:=h0 _ hq;unfold qP;omega),aTr (fun hq=>by have:=h0 _ hq;omega),aTr (yE pQ)];rfl) (by
  unfold RB;rw[aTs (A7 _)])
 unfold HG;rw[h,aHd];rfl
theorem aHh {l:List sW}{i:Nat}:qV rW l (i:Int)=l.getD i fD:=by unfold qV;rw[aUj];rfl
theorem aPM {l:List sW}{i:Nat}:qV rW l ((i:Int)-1)=l.getD (i-1) fD:=by
 unfold qV;rw[show ((i:Int)-1).toNat=i-1 by omega];rfl
def YQ (x:sW):Prop:=sV x.1/\sV x.2.1
theorem SR {α:Type}{l:List α}{i:Nat}{d:α}(h:i<l.length):l.getD i d∈l:=by
 rw[aTM,aTy h];exact aUF h
theorem aHi {i:Nat}{q:Bool}(hq:((q==false)&&(decide (0<i)==true))=true):0<i:=by
 simp only[aTL,aU7,aTN] at hq;exact hq.2
theorem aHj (l:List sW) (hl:sV l) (hx: ∀x∈l,YQ x):FX l=some (wA l):=by
 unfold sV at hl;have h:=aHc (f:=RP l) (n:=l.length) (Y8 l) (fun _=>false) (fun i h=>by
  unfold RP;have hf:=hx _ (SR (d:=fD) h);rw[aTr (wR h),aTr (vB h),aHh,aPM,Y4,aTu,aHg,MU _ hf.2];rw[aTr G7,aTr (fun hq=>by have:=aHi hq;unfold qP;omega),aTr (fun hq=>by have:=aHi hq;omega),aTr (yE pQ)];rfl) (by
  unfold RP;rw[aTs (A7 _)])
 unfold FX;rw[h,aHd];rfl
structure a8E (x:tU):Prop where
 id:sV x.1
 src:sV x.2.1
 tgt:sV x.2.2.1
 com:sV x.2.2.2.1/\∀y∈x.2.2.2.1,sV y
 flg:sV x.2.2.2.2.1/\∀y∈x.2.2.2.2.1,sV y
 fld:sV x.2.2.2.2.2.2.1/\∀y∈x.2.2.2.2.2.2.1,YQ y
theorem aPN (x:tU) (h:a8E x):JX x=some (zQ x):=by
 obtain⟨t1,t2⟩:=aHe _ h.com.1 h.com.2;have e1:=aPL _ h.flg.1;have e2:=aHj _ h.fld.1 h.fld.2;unfold JX;rw[MU _ h.id,MU _ h.src,MU _ h.tgt,t1,t2,e1,e2];have k: ∀s:pM,(decide ((s.length:Int)<=4000)&&Lib.validD s)=sO s:=fun s=>rfl;rw[aTr G7,aTu,aTr G7,aTr G7,aTr G7,aTr G7,k,k,k];unfold zQ;show (if _ then some false else some _)=_;have a1:decide ((200:Int)<(x.1.length:Int))= !decide ((x.1.length:Int)<=200):=by rw[<-decide_not];exact aU3.2 pQ
 have a2:decide (x.2.2.2.2.2.1<(0:Int))= !decide ((0:Int)<=x.2.2.2.2.2.1):=by rw[<-decide_not];exact aU3.2 pQ
 have a3:decide ((4:Int)<x.2.2.2.2.2.1)= !decide (x.2.2.2.2.2.1<=(4:Int)):=by rw[<-decide_not];exact aU3.2 pQ
 rw[a1,a2,a3];show (if _ then some false else some (((((sO x.2.1&&sO x.2.2.1)&&x8 x.2.2.2.1)&&DT x.2.2.2.2.1))&&wA x.2.2.2.2.2.2.1))=_;generalize decide (x.1=[])=b1;generalize decide ((x.1.length:Int)<=200)=b2;generalize sO x.1=b3;generalize sO x.2.1=b4;generalize sO x.2.2.1=b5;generalize x8 x.2.2.2.1=b6;generalize DT x.2.2.2.2.1=b7;generalize decide ((0:Int)<=x.2.2.2.2.2.1)=b8;generalize decide (x.2.2.2.2.2.1<=(4:Int))=b9;generalize wA x.2.2.2.2.2.2.1=b10;cases b1<;>cases b2<;>cases b3<;>cases b8<;>cases b9<;>simp
def a8F (ids:pU) (es:List tA):Prop:= ∀x,sN .str .bool ids x=es.any fun y=>decide (y.1=x)
theorem aPO {ids:pU}{es:List tA}(h:a8F ids es) (e:tA) (x:pM) (he:e.1=x):a8F (sY .str .bool x true ids) (es++[e]):=by
 intro y;rw[x9,List.any_append,<-h y];by_cases hy:y=x
 .rw[aTr hy];simp [he,hy]
 rw[aTs hy];have:decide (e.1=y)=false:=by rw[he];simpa using fun hh=>hy hh.symm
 simp [this]
theorem aHk {l:List tU}{i:Nat}:qV xM l (i:Int)=l.getD i eD:=by unfold qV;rw[aUj];rfl
structure a8G (c:C4):Prop where
 tag:sV c.1
 com:sV c.2.1/\∀y∈c.2.1,sV y
 fld:sV c.2.2.1/\∀y∈c.2.2.1,YQ y
 len:c.2.2.2.1.length<=5000
 ent: ∀x∈c.2.2.2.1,a8E x
theorem aPP {α:Type}{l:List α}{i:Nat}{d:α}(h:i<l.length):l.take (i+1)=l.take i++[l.getD i d]:=by
 rw[List.take_add_one,aTy h,aTM,aTy h];rfl
theorem aHl {c:C4}(hc:a8G c): ∀(n i:Nat) (m:pU),i+n=c.2.2.2.1.length->a8F m (c.2.2.2.1.take i)->
  sF (MO c) ((i:Int),m)=some (if (List.range' i n).any (I7 c.2.2.2.1)=true then .inr false else .inl ())
 |0,i,m,hi,_=>by
  have:i=c.2.2.2.1.length:=by omega
  subst this;refine H5 ?_;unfold MO;dsimp only;rw[aTs (A7 _)];rfl
 |n+1,i,m,hi,hm=>by
  have h:i<c.2.2.2.1.length:=by omega
  have he:=hc.ent _ (SR (d:=eD) h);have hl:=hc.len;have hst:MO c ((i:Int),m)=if I7 c.2.2.2.1 i=true then some (.inr (.inr false)) else some (.inl (((i+1:Nat):Int),sY .str .bool (c.2.2.2.1.getD i eD).1 true m)):=by
   unfold MO;dsimp only;rw[aTr (wR h),aTr (vB h),aHk,hm,aPN _ he,aTr G7,aTr (yE pQ)];rfl
  rw[aVe,List.any_cons];by_cases hb:I7 c.2.2.2.1 i=true
  .rw[aTr hb] at hst;rw[hb,Bool.true_or,aTr rfl];exact H5 hst
  rw[aTs hb] at hst;rw[W7 hst,aHl hc n (i+1) _ pQ (by rw[aPP (d:=eD) h];exact aPO hm _ _ rfl)];simp only[aUH] at hb;rw[hb,Bool.false_or]
theorem aPQ {c:C4}(hc:a8G c):MP c=some (yS c):=by
 obtain⟨t1,t2⟩:=aHe _ hc.com.1 hc.com.2;have e2:=aHj _ hc.fld.1 hc.fld.2;have hlp:=aHl hc c.2.2.2.1.length 0 [] pQ (fun x=>by rfl);rw[<-List.range_eq_range'] at hlp;have hlp':sF (MO c) ((0:Int),[])=_:=hlp;have a1:decide ((1000:Int)<(c.2.2.2.1.length:Int))= !decide ((c.2.2.2.1.length:Int)<=1000):=by rw[<-decide_not];exact aU3.2 pQ
 unfold MP;rw[a78,aTu,t1,t2,e2,aTr G7,aTr G7,hlp',a1];unfold yS;show (if (((!xP c.1)||(!x8 c.2.1))||(!wA c.2.2.1)||_)=true then some false else _)=_
 generalize xP c.1=b1;generalize x8 c.2.1=b2;generalize wA c.2.2.1=b3;generalize decide ((c.2.2.2.1.length:Int)<=1000)=b4;generalize (List.range c.2.2.2.1.length).any (I7 c.2.2.2.1)=b5;cases b1<;>cases b2<;>cases b3<;>cases b4<;>cases b5<;>rfl
def G8 (l:pN):Prop:=l.length<=6000/\∀x∈l,x.length<=6000
def N0 (l:List sW):Prop:=l.length<=6000/\∀x∈l,x.1.length<=6000/\x.2.1.length<=6000
structure SS (x:tU):Prop where
 id:x.1.length<=6000
 src:x.2.1.length<=6000
 tgt:x.2.2.1.length<=6000
 com:G8 x.2.2.2.1
 flg:G8 x.2.2.2.2.1
 fld:N0 x.2.2.2.2.2.2.1
structure K4 (c:C4):Prop where
 tag:c.1.length<=100
 com:G8 c.2.1
 fld:N0 c.2.2.1
 len:c.2.2.2.1.length<=1000
 ent: ∀x∈c.2.2.2.1,SS x
theorem K5 {l:pM}(h:l.length<=6000):sV l:=by unfold sV;omega
theorem a8H {l:pN}(h:G8 l):sV l/\∀y∈l,sV y:=⟨by have:=h.1;unfold sV;omega,fun y hy=>K5 (h.2 y hy)⟩
theorem aHm {l:List sW}(h:N0 l):sV l/\∀y∈l,YQ y:=⟨by have:=h.1;unfold sV;omega,fun y hy=>⟨K5 (h.2 y hy).1,K5 (h.2 y hy).2⟩⟩
theorem SS.fitP {x:tU}(h:SS x):a8E x:=⟨K5 h.id,K5 h.src,K5 h.tgt,a8H h.com,a8H h.flg,aHm h.fld⟩
theorem K4.fitP {c:C4}(h:K4 c):a8G c:=⟨K5 (by have:=h.tag;omega),a8H h.com,aHm h.fld,by have:=h.len;omega,fun x hx=>(h.ent x hx).fitP⟩
theorem aHn {σ ρ α:Type}{f:σ->Option (σ⊕ρ)}(st:Int->List α->σ) (out:List α->ρ) {n M B:Nat}(g:Nat->List α) (hg: ∀i,i<n->(g i).length<=B)
  (hf: ∀(i:Nat) s,i<n->s.length+B<=M->f (st i s)=some (.inl (st ((i:Int)+1) (s++g i)))) (he: ∀s,f (st n s)=some (.inr (out s))):
  ∀(k i:Nat) (s:List α),i+k=n->s.length+k*B<=M->sF f (st i s)=some (out (s++(List.range' i k).flatMap g))
 |0,i,s,hi,_=>by
  have:i=n:=by omega
  subst this;rw[H5 (he s)];simp
 |k+1,i,s,hi,hM=>by
  rw[aUC] at hM;have hgi:=hg i pQ;rw[W7 (hf i s pQ pQ),show ((i:Int)+1)=((i+1:Nat):Int) by omega,aHn st out g hg hf he k (i+1) (s++g i) pQ (by rw[aTt];omega),aVe,aUP,aTD]
theorem aHo {α:Type}{g:Nat->List α}{B:Nat}: ∀(k i:Nat),(∀j,i<=j->j<i+k->(g j).length<=B)->((List.range' i k).flatMap g).length<=k*B
 |0,i,_=>by simp
 |k+1,i,h=>by
  rw[aVe,aUP,aTt,aUC];have h1:=aHo k (i+1) fun j h1 h2=>h j pQ pQ;have h2:=h i pQ pQ;omega
theorem YR {σ ρ α:Type}{f:σ->Option (σ⊕ρ)}(st:Int->List α->σ) (out:List α->ρ) {n M B:Nat}(g:Nat->List α) (hg: ∀i,i<n->(g i).length<=B) (s:List α) (hM:s.length+n*B<=M)
  (hf: ∀(i:Nat) s,i<n->s.length+B<=M->f (st i s)=some (.inl (st ((i:Int)+1) (s++g i)))) (he: ∀s,f (st n s)=some (.inr (out s))):
  sF f (st 0 s)=some (out (s++(List.range' 0 n).flatMap g)):=aHn st out g hg hf he n 0 s pQ hM
theorem a8I {α β:Type}{l:List α}{d:α}(h:α->List β):(List.range' 0 l.length).flatMap (fun i=>h (l.getD i d))=l.flatMap h:=by
 have e:(List.range' 0 l.length).map (fun i=>l.getD i d)=l:=by
  apply List.ext_getElem
  .simp
  intro i h1 h2;simp [aTM,h2]
 conv=>rhs;rw[<-e]
 rw[List.flatMap_map]
theorem K6 {α β:Type}{l:List α}{h:α->List β}{B:Nat}(hb: ∀x∈l,(h x).length<=B):(l.flatMap h).length<=l.length*B:=by
 induction l with
 |nil=>simp
 |cons x l ih=>
  rw[aUP,aTt,aTx,aUC];have h1:=hb x aTJ;have h2:=ih fun y hy=>hb y (aTB _ hy);omega
def yG (n b:Nat) (first:Bool):pM:=(JR (n:Int) (b:Int) first).getD []
theorem aPR:((List.range 256).all fun b=>[true,false].all fun f=>decide (JR 2 (b:Int) f=some (yG 2 b f))&&(decide (a5P 2 (b:Int) f=some (yG 2 b f))&&decide ((yG 2 b f).length<=6)))=true:=by kernel_rfl
theorem aHp {n b:Nat}(hn:n=2) (hb:b<256) (f:Bool):JR (n:Int) (b:Int) f=some (yG n b f)/\a5P (n:Int) (b:Int) f=some (yG n b f)/\(yG n b f).length<=6:=by
 have hf:f∈[true,false]:=by cases f<;>simp
 subst hn;have h:=aUr.1 (aUr.1 aPR b (by simpa using hb)) f hf;simpa using h
def N1 (n:Nat) (s:pM) (i:Nat):pM:=yG n (s.getD i 0).toNat (decide (i=0))
def wU (n:Nat) (s:pM):pM:=(List.range' 0 s.length).flatMap (N1 n s)
theorem aHq {n:Nat}(hn:n=2) (s:pM) (i:Nat):(N1 n s i).length<=6:=(aHp hn (UInt8.toNat_lt _) _).2.2
theorem a8J {n:Nat}(hn:n=2) (s:pM):(wU n s).length<=6*s.length:=by
 have:=aHo (g:=N1 n s) (B:=6) s.length 0 fun j _ _=>aHq hn s j;unfold wU;omega
theorem aPS {s:pM}{i:Nat}:sX s (i:Int)=((s.getD i 0).toNat:Int):=by unfold sX;rw[aUj]
theorem aPT {i:Nat}:decide ((i:Int)=0)=decide (i=0):=aU3.2 pQ
theorem aPU {l:q8}{g:Nat->pM}:l.flatMap (fun i=>uI (g i))=uI (l.flatMap g):=by
 induction l with
 |nil=>rfl
 |cons x l ih=>rw[aUP,aUP,a8e,ih]
theorem aHr (l:pM):(uI l).length=l.length:=by simp [uI]
theorem aPV {n:Nat}(hn:n=2) {s:pM}(hs:sV s):JU (n:Int) s=some (wU n s):=by
 unfold sV at hs;have hn4: ¬decide ((n:Int)=4)=true:=by simp;omega
 have h:=YR (f:=RQ (n:Int) s) (fun i b=>(i,b)) (fun b=>b) (n:=s.length) (M:=10000000000000) (B:=6) (fun i=>uI (N1 n s i)) (fun i _=>by rw[aHr];exact aHq hn s i) [] pT (fun i b hi hM=>by
  obtain⟨e1,_,e3⟩:=aHp hn (UInt8.toNat_lt (s.getD i 0)) (decide (i=0));unfold RQ;dsimp only;rw[aTr (wR hi),aTs hn4,aTr (vB hi),aPS,aPT,e1,aTu];unfold DQ;rw[aTr (by dsimp only;omega),aTu,aTr (yE pQ)];rfl) (fun b=>by
  unfold RQ;dsimp only;rw[aTs (A7 _)])
 unfold JU;rw[aTs pT,h,aPU];unfold uM;rw[aTu,List.nil_append,a8f];rfl
def G9 (h:pM) (l:pN) (t:pM):pM:=h++(l.flatten++t)
theorem aHs {f:(Int×pM)->pW->Option (pW⊕pM)}(hf: ∀it b,b.length+it.2.length<=140737488355328->f it b=some (.inl (b++uI it.2))): ∀(l:List (Int×pM)) (b:pW),
  b.length+((l.map (·.2)).flatten).length<=140737488355328->AJ f l b=some (.inl (b++uI (l.map (·.2)).flatten))
 |[],b,_=>by simp [AJ,uI]
 |it::l,b,h=>by
  simp only[aUt,aUd,aTt] at h;unfold AJ;rw[hf it b pQ,aTu];show AJ f l _=_;rw[aHs hf l _ (by rw[aTt,aHr];omega)];simp only[aUt,aUd,a8e,aTD]
theorem aHt (d:uZ):((CS d).map (·.2)).flatten=G9 d.1 d.2.1 d.2.2.1:=by
 unfold CS G9;have e:(List.range d.2.1.length).map (fun j=>d.2.1.getD j [])=d.2.1:=by
  apply List.ext_getElem
  .simp
  intro i h1 h2;simp [aTM,h2]
 have e2:(((List.range d.2.1.length).map fun j:Nat=>((j:Int)+1,d.2.1.getD j [])).map (·.2))=d.2.1:=by
  rw[List.map_map];exact e
 simp only[aUt,List.map_append,List.map_nil,aUd,List.flatten_append,List.flatten_nil,List.append_nil,e2,aTD]
theorem a8K (d:uZ) (hl:d.2.1.length<=900000) (hb:(G9 d.1 d.2.1 d.2.2.1).length<=140737488355328):JP d=some (G9 d.1 d.2.1 d.2.2.1):=by
 have h:=aHs (f:=XE) (fun it b h=>by
  unfold XE DQ;rw[aTr h,aTu]) (CS d) [] (by rw[aHt];simpa using hb)
 unfold JP;rw[aTr pQ,h,aHt];unfold uY;dsimp only;rw[aTu];simp only[List.nil_append,a8f]
theorem aHu {l:pN}(h:G8 l) {i:Nat}(hi:i<l.length):(l.getD i []).length<=6000:=h.2 _ (SR hi)
theorem aHv {l:List sW}(h:N0 l) {i:Nat}(hi:i<l.length):(l.getD i fD).1.length<=6000/\(l.getD i fD).2.1.length<=6000:=h.2 _ (SR hi)
theorem aHw {n:Int}(h0:0<=n) (h1:n<=4):(qV .str w9 n).length<=10:=by
 have:n=0\/n=1\/n=2\/n=3\/n=4:=by omega
 rcases this with rfl|rfl|rfl|rfl|rfl<;>decide
theorem aPW {α β:Type}{f:α->β}{l:List α}:l.flatMap (fun x=>[f x])=l.map f:=by
 induction l with
 |nil=>rfl
 |cons x l ih=>rw[aUP,ih];rfl
theorem aHx {x:tU}(h:zQ x=true):0<=x.2.2.2.2.2.1/\x.2.2.2.2.2.1<=4:=by
 unfold zQ at h;simp only[aTL,aTN] at h;exact h.1.2
def BN (n:Nat):Bool->pM->pM
 |_,[]=>[]
 |f,b::t=>yG n b.toNat f++BN n false t
theorem aHy (n:Nat): ∀(s:pM) (p:pM),p≠[]->(List.range' p.length s.length).flatMap (N1 n (p++s))=BN n false s
 |[],p,_=>by simp [BN]
 |b::t,p,hp=>by
  have hl:0<p.length:=aUk.2 hp;rw[aTx,aVe,aUP];have h1:N1 n (p++b::t) p.length=yG n b.toNat false:=by
   unfold N1;rw[show decide (p.length=0)=false by simp;exact hp];congr 2;rw[aTM,aTA (aTO _),aUY];rfl
  have h2:=aHy n t (p++[b]) pS;rw[aTt,aUu,aTD,aVi] at h2;rw[h1,h2];rfl
theorem a8L (n:Nat) (s:pM):wU n s=BN n true s:=by
 cases s with
 |nil=>rfl
 |cons b t=>
  unfold wU;rw[aTx,aVe,aUP];have h2:=aHy n t [b] pS;rw[aUu,aVi] at h2;rw[aTW,h2];rfl
theorem aPX {e:pM}(t:pM) (h:(z6 e).2=e.length) (h0:e≠[]):z6 (e++t)=z6 e:=by
 match e,h,h0 with
 |[a],h,_=>simp [z6] at h
 |a::c::u,h,_=>
  show z6 (a::c::(u++t))=z6 (a::c::u);simp only[z6] at h|-;split
  .rfl
  rename_i h1;rw[aTs h1] at h;split
  .rfl
  rename_i h2;rw[aTs h2] at h;split
  .rfl
  rename_i h3;rw[aTs h3] at h;split
  .rfl
  rename_i h4;rw[aTs h4] at h;by_cases hx:c=120/\2<=u.length
  .rw[aTr hx,aTr ⟨hx.1,by rw[aTt];omega⟩,aVd hx.2]
  rw[aTs hx] at h|-;by_cases hu:c=117/\4<=u.length
  .have: ¬(c=120/\2<=(u++t).length):=fun hh=>by
    have:=hu.1.symm.trans hh.1;exact absurd this pR
   rw[aTs this,aTr hu,aTr ⟨hu.1,by rw[aTt];omega⟩,aVd hu.2]
  rw[aTs hu] at h;simp at h
theorem aPY {n:Int}{e:pM}(t:pM) (h:(v8 n e).2=e.length) (h0:e≠[]):v8 n (e++t)=v8 n e:=by
 match e,h,h0 with
 |b::u,h,_=>
  show v8 n (b::(u++t))=_;by_cases hb:b=92
  .rw[S9 hb] at h|-;rw[S9 hb];exact aPX (e:=b::u) t h pS
  by_cases hk:I6 n b=true
  .rw[SA hb hk,SA hb hk]
  rw[SB hb hk,SB hb hk]
theorem aPZ:((List.range 256).all fun b=>[true,false].all fun f=>decide (v8 2 (yG 2 b f)=([b.toUInt8],(yG 2 b f).length))&&(decide (yG 2 b f≠[])&&decide (tY 34 (yG 2 b f++[34])=some (yG 2 b f).length)))=true:=by kernel_rfl
def PA (_n:Nat):UInt8:=34
theorem aHz {n:Nat}(hn:n=2) (b:UInt8) (f:Bool):v8 (n:Int) (yG n b.toNat f)=([b],(yG n b.toNat f).length)/\yG n b.toNat f≠[]/\tY (PA n) (yG n b.toNat f++[PA n])=some (yG n b.toNat f).length:=by
 have hf:f∈[true,false]:=by cases f<;>simp
 have hb:b.toNat<256:=UInt8.toNat_lt b;have hbb:b.toNat.toUInt8=b:=by simp
 subst hn;have h:=aUr.1 (aUr.1 aPZ b.toNat (by simpa using hb)) f hf;simp only[aTL,aTN,hbb] at h;exact⟨h.1,h.2.1,h.2.2⟩
theorem aHA {n:Nat}(hn:n=2): ∀(s:pM) (f:Bool) (k:Nat),(BN n f s).length<=k->BJ (n:Int) k (BN n f s)= .inl s
 |[],f,k,_=>by
  cases k<;>rfl
 |b::t,f,k,hk=>by
  obtain⟨h1,h2,_⟩:=aHz hn b f;unfold BN at hk|-;obtain⟨e,he⟩: ∃e,yG n b.toNat f=e:=⟨_,rfl⟩;rw[he] at h1 h2 hk|-;have hp:=aPY (BN n false t) (by rw[h1]) h2;rw[h1] at hp;rw[aTt] at hk;have hl:0<e.length:=aUk.2 h2;obtain⟨k',rfl⟩: ∃k',k=k'+1:=⟨k-1,pQ⟩;obtain⟨a,u,rfl⟩: ∃a u,e=a::u:=by
   cases e with
   |nil=>exact absurd rfl h2
   |cons a u=>exact⟨a,u,rfl⟩
  rw[List.cons_append] at hp|-;unfold BJ;rw[hp,aTs pS];dsimp only;rw[<-List.cons_append,aVx,aHA hn t false k' pQ];rfl
theorem aP0 {n:Nat}(hn:n=2) (s:pM):wS (n:Int) (wU n s)=(s,0,0):=by
 unfold wS;rw[a8L,aHA hn s true _ (aTO _)]
theorem a8M {d:UInt8}: ∀(m:Nat) (e t:pM),e.length<=m->tY d (e++[d])=some e.length->tY d (e++t)=(tY d t).map (· +e.length)
 |_,[],t,_,_=>by simp
 |0,_::_,_,h,_=>by simp at h
 |m+1,b::u,t,hm,h=>by
  rw[List.cons_append] at h|-;rw[aTx] at hm;by_cases hb:b=d
  .rw[YA hb] at h;simp at h
  by_cases h9:b=92
  .rw[YB hb h9] at h;rw[YB hb h9];cases u with
   |nil=>simp [Y9] at h
   |cons c v=>
    simp only[List.cons_append,aVu,aUN] at h|-;rw[aTx] at hm;have h':tY d (v++[d])=some v.length:=by
     cases hq:tY d (v++[d]) with
     |none=>rw[hq] at h;cases h
     |some k=>rw[hq] at h;simp at h;rw[h]
    rw[a8M m v t pQ h',Option.map_map];congr 1
  rw[YC hb h9] at h;rw[YC hb h9];have h':tY d (u++[d])=some u.length:=by
   cases hq:tY d (u++[d]) with
   |none=>rw[hq] at h;cases h
   |some k=>rw[hq] at h;simp at h;rw[h]
  rw[a8M m u t pQ h',Option.map_map];congr 1
theorem aHB {n:Nat}(hn:n=2): ∀(s:pM) (f:Bool) (t:pM),tY (PA n) (BN n f s++t)=(tY (PA n) t).map (· +(BN n f s).length)
 |[],f,t=>by simp [BN]
 |b::u,f,t=>by
  obtain⟨_,_,h3⟩:=aHz hn b f;unfold BN;rw[aTD,a8M _ _ _ (aTO _) h3,aHB hn u false t,Option.map_map];congr 1;funext k;simp only[Function.comp,aTt];omega
theorem aP1 {n:Nat}(hn:n=2) (s z:pM):tY (PA n) (wU n s++PA n::z)=some (wU n s).length:=by
 rw[a8L,aHB hn,YA rfl];simp
theorem aP2 {l:List sW}{n v:pM}(h: ∀y∈l,y.1<n):xQ l n v=l++[(n,(v,()))]:=by
 have h1:yF l n=none:=by
  unfold yF;rw[aUz];intro y hy;have:=h y hy;simp only[aT5];intro he;rw[he] at this;exact List.lt_irrefl _ this
 have hk:uK l n=l.length:=by
  unfold uK;rw[aUz.2 fun y hy=>by rw[G1];simp [h y hy]];rfl
 unfold xQ;rw[h1,hk,List.take_length,aUG,List.append_nil];rfl
theorem aHC {n:Int}(h0:0<=n) (h4:n<=4):zP (qV .str w9 n)=n:=by
 have:n=0\/n=1\/n=2\/n=3\/n=4:=by omega
 rcases this with rfl|rfl|rfl|rfl|rfl<;>decide
theorem aHD {x:pM}(h:xP x=true):sO x=true:=by
 unfold xP at h;simp only[aTL,aTV,aT9,aUH,aTN] at h;obtain⟨h0,h1,h2⟩:=h;unfold sO;rw[aTL,aTN];refine⟨pQ,aGo fun c hc=>?_⟩;have:=h0 c hc;unfold S6 at this;simp only[aVj,aVf,aTL,aUO,aTN,aT5] at this;omega
theorem a8N {l:pN}(h:l.length<=20/\∀y∈l,y.length<=4000):G8 l:=⟨pQ,fun y hy=>by have:=h.2 y hy;omega⟩
theorem aHE {l:List sW}(h:l.length<=20/\∀y∈l,y.1.length<=4000/\y.2.1.length<=4000):N0 l:=⟨pQ,fun y hy=>by have:=h.2 y hy;omega⟩
theorem a8o.few {x:tU}(h:a8o x):SS x:=⟨by have:=h.id;omega,by have:=h.src;omega,by have:=h.tgt;omega,a8N h.com,a8N h.flg,aHE h.fld⟩
theorem aP3 {c:C4}(h:yS c=true):K4 c:=by
 obtain⟨h1,h2,h3,h4,h5,_⟩:=YI h;obtain⟨c1,c2⟩:=I8 h2;obtain⟨g1,g2,g3⟩:=I9 h3;refine⟨?_,a8N ⟨c1,fun y hy=>BK (c2 y hy)⟩,aHE ⟨g1,fun y hy=>⟨BK (g2 y hy).2.1,BK (g2 y hy).2.2⟩⟩,h4,fun x hx=>(aOK (h5 x hx)).few⟩;unfold xP at h1;simp only[aTL,aTN] at h1;omega
def xB:Nat->pN->q8
 |_,[]=>[]
 |a,x::ps=>(a+x.length)::xB (a+x.length) ps
theorem YS: ∀(a:Nat) (ps:pN),(xB a ps).length=ps.length
 |_,[]=>rfl
 |a,x::ps=>by rw[xB,aTx,aTx,YS]
theorem YT: ∀(ps:pN) (a j:Nat),j<=ps.length->(a::xB a ps).getD j 0=a+(ps.take j).flatten.length
 |_,a,0,_=>by simp
 |[],_,_+1,h=>by simp at h
 |x::ps,a,j+1,h=>by
  rw[xB,List.getD_cons_succ,YT ps (a+x.length) j (by simpa using h),List.take_succ_cons,aUd,aTt];omega
theorem aP4 (ps:pN) (j:Nat):ps.flatten=(ps.take j).flatten++(ps.drop j).flatten:=by
 rw[<-List.flatten_append,aUS]
theorem a8O {s a b c:pM}(h:s=a++(b++c)):s7 s (a.length:Nat) ((a.length+b.length:Nat):Int)=b:=by
 unfold s7;rw[aUj,aUj,h,aVx,aUb,aUQ]
theorem aP5 {s:pM}{l:q8}{j:Nat}(h:j<l.length):(P2 s l)[j]? =some (pc s l j):=by
 unfold P2;rw[List.getElem?_map,List.getElem?_range h];rfl
section
variable {s p0 t:pM}{ps:pN}(hs:s=p0++(ps.flatten++t))
include hs
theorem aP6:pc s (p0.length::xB p0.length ps) 0=p0:=by
 have h:s=[]++(p0++(ps.flatten++t)):=hs;have:=a8O h;simp only[aTI,aTW] at this;exact this
theorem aP7:(P2 s (p0.length::xB p0.length ps)).drop 1=ps:=by
 apply List.ext_getElem?;intro j;rw[List.getElem?_drop];by_cases hj:j<ps.length
 .rw[aP5 (by rw[aTx,YS];omega),aTy hj];congr 1;have e1:(p0.length::xB p0.length ps).getD j 0=p0.length+(ps.take j).flatten.length:=YT ps _ j pQ;have e2:(p0.length::xB p0.length ps).getD (1+j) 0=p0.length+(ps.take (1+j)).flatten.length:=YT ps _ _ pQ;have e3:(ps.take (1+j)).flatten=(ps.take j).flatten++ps[j]:=by
   rw[Nat.add_comm,List.take_add_one,aTy hj,List.flatten_append];simp
  have e4:s=(p0++(ps.take j).flatten)++(ps[j]++((ps.drop (j+1)).flatten++t)):=by
   rw[hs,aP4 ps j,aUa hj,aUd];simp only[aTD]
  have e5:=a8O e4;rw[aTt] at e5;show s7 s ((if 1+j=0 then 0 else(p0.length::xB p0.length ps).getD (1+j-1) 0:Nat):Int) (((p0.length::xB p0.length ps).getD (1+j) 0:Nat):Int)=_;rw[aTs pQ,aUb,e1,e2,e3,aTt,<-aT3];exact e5
 rw[aUD (show ps.length<=j by omega),aUD];simp [YS];omega
theorem aP8:s7 s (P3 (p0.length::xB p0.length ps):Nat) (s.length:Int)=t:=by
 have e1:P3 (p0.length::xB p0.length ps)=p0.length+ps.flatten.length:=by
  unfold P3;rw[aTx,YS,Nat.add_sub_cancel,YT ps _ _ (aTO _),List.take_length]
 have e4:s=(p0++ps.flatten)++(t++[]):=by rw[hs];simp
 have e5:=a8O e4;rw[aTt] at e5;have e6:s.length=p0.length+ps.flatten.length+t.length:=by rw[hs];simp only[aTt];omega
 rw[e1,e6];exact e5
end
theorem yT {l:pM}(h:l.length≤4000000000):(l.length:Int)≤9223372036854775807:=by omega
def qt (s:pM):pM:=(([34]:pM)++wU 2 s)++([34]:pM)
theorem DD {s:pM}(h:s.length≤6000):(qt s).length≤36002:=by
  have:=a8J (n:=2) rfl s;simp only[qt,aTt,aTx,aTI];omega
theorem N2 {s:pM}(h:s.length≤6000):BE s=some (qt s):=by
  have h1:=a8J (n:=2) rfl s;unfold BE;rw[show JU (2:Int) s=some (wU 2 s) from aPV (n:=2) rfl (K5 h),aTu]
  repeat rw[aTr (yT (by simp only[aTt,aTx,aTI];omega))]
  rfl
abbrev YU:pM:=([32,32,99,111,109,109,101,110,116,32]:pM)
abbrev aHF:pM:=([32,32,102,105,101,108,100,32]:pM)
abbrev zS:pM:=([32,32,115,111,117,114,99,101,32]:pM)
abbrev A9:pM:=([32,32,116,97,114,103,101,116,32]:pM)
abbrev K7:pM:=([32,32,115,116,97,116,101,32]:pM)
abbrev PB:pM:=([32,32,102,108,97,103,115,32]:pM)
abbrev aHG:pM:=([10,101,110,116,114,121,32]:pM)
abbrev GA:pM:=([101,110,100,10]:pM)
abbrev K8:pM:=([99,97,116,97,108,111,103,32]:pM)
def wV (s:pM):pM:=(YU++qt s)++[10]
def GB (l:pN):pM:=l.flatMap wV
theorem aHH {s:pM}(h:s.length≤6000):(wV s).length≤36013:=by
  have:=DD h;simp only[wV,aTt,aTx,aTI];omega
theorem YV {l:pN}(h:G8 l):(GB l).length≤216078000:=by
  have:=K6 (l:=l) (h:=wV) (B:=36013) fun x hx=>aHH (h.2 x hx);have h1:=h.1;unfold GB
  calc _≤l.length*36013:=this
    _≤6000*36013:=aUA _ h1
theorem aHI {l:pN}(h:G8 l):JW l=some (GB l):=by
  have hl:=h.1
  have k:=YR (f:=RU l) (fun i s=>(s,i)) (fun s=>s) (n:=l.length) (M:=1000000000) (B:=36013) (fun i=>wV (l.getD i [])) (fun i hi=>aHH (aHu h hi)) [] pT (fun i s hi hM=>by
    have h2:=aHu h hi;have h1:=DD h2;unfold RU;dsimp only;rw[aTr (wR hi),aTr (vB hi),aHf,N2 h2,aTu]
    repeat rw[aTr (yT (by simp only[aTt,aTx,aTI];omega))]
    rw[aTr (yE pQ)];rfl) (fun b=>by
    unfold RU;dsimp only;rw[aTs (A7 _)])
  unfold JW;rw[k,a8I (l:=l) (d:=[]) wV];rfl
def zT (f:sW):pM:=(((aHF++qt f.1)++[32])++qt f.2.1)++[10]
def IA (l:List sW):pM:=l.flatMap zT
theorem aHJ {f:sW}(h:f.1.length≤6000∧f.2.1.length≤6000):(zT f).length≤72014:=by
  have h1:=DD h.1;have h2:=DD h.2;simp only[zT,aTt,aTx,aTI];omega
theorem YW {l:List sW}(h:N0 l):(IA l).length≤432084000:=by
  have:=K6 (l:=l) (h:=zT) (B:=72014) fun x hx=>aHJ (h.2 x hx);have h1:=h.1;unfold IA
  calc _≤l.length*72014:=this
    _≤6000*72014:=aUA _ h1
theorem a8P {l:List sW}(h:N0 l):HZ l=some (IA l):=by
  have hl:=h.1
  have k:=YR (f:=RV l) (fun i s=>(s,i)) (fun s=>s) (n:=l.length) (M:=1000000000) (B:=72014) (fun i=>zT (l.getD i fD)) (fun i hi=>aHJ (aHv h hi)) [] pT (fun i s hi hM=>by
    have h2:=aHv h hi;have h1:=DD h2.1;have h3:=DD h2.2;unfold RV;dsimp only;rw[aTr (wR hi),aTr (vB hi),aHh,N2 h2.1,aTu]
    repeat rw[aTr (yT (by simp only[aTt,aTx,aTI];omega))]
    rw[N2 h2.2,aTu]
    repeat rw[aTr (yT (by simp only[aTt,aTx,aTI];omega))]
    rw[aTr (yE pQ)];rfl) (fun b=>by
    unfold RV;dsimp only;rw[aTs (A7 _)])
  unfold HZ;rw[k,a8I (l:=l) (d:=fD) zT];rfl
theorem a8Q (x:pM) (r:pN):xL (x::r) [32]=x++r.flatMap (fun y=>[32]++y):=by
  unfold xL;rw[Lib.join_cons];unfold Lib.joinTail;rw[List.flatMap_def]
theorem aHK {l:pN}(h:G8 l):(xL l [32]).length≤36012000:=by
  cases l with
  |nil=>simp [xL,Lib.join_nil]
  | cons x r=>
    rw[a8Q,aTt];have h1:=h.1;have h2:=h.2 x aTJ
    have h3:=K6 (l:=r) (h:=fun y=>[32]++y) (B:=6001) fun y hy=>by
      have:=h.2 y (aTB _ hy);simp only[aTt,aTx,aTI];omega
    simp only[aTx] at h1;have h4:r.length*6001≤6000*6001:=aUA _ pQ;omega
def IB (l:pN):pM:=if l=[] then[] else(PB++xL l [32])++[10]
theorem aP9 {l:pN}(h:G8 l):(IB l).length≤36012009:=by
  unfold IB;split
  .simp
  have:=aHK h
  simp only[aTt,aTx,aTI];omega
def GC (p s:pM):pM:=if s=[] then[] else(p++qt s)++[10]
def PC (n:Int):pM:=if n=0 then[] else(K7++qV .str w9 n)++[10]
theorem aHL {p s:pM}(hp:p.length≤10) (h:s.length≤6000):(GC p s).length≤36013:=by
  have:=DD h;unfold GC;split
  .simp
  simp only[aTt,aTx,aTI];omega
theorem aHM {n:Int}(h0:0≤n) (h4:n≤4):(PC n).length≤19:=by
  have:=aHw h0 h4;unfold PC;split
  .simp
  simp only[aTt,aTx,aTI];omega
def iA (x:tU):pM:=((aHG++qt x.1)++[10])++GB x.2.2.2.1
def iB (x:tU):pM:=iA x++GC zS x.2.1
def iC (x:tU):pM:=iB x++GC A9 x.2.2.1
def iD (x:tU):pM:=iC x++PC x.2.2.2.2.2.1
def iE (x:tU):pM:=iD x++IB x.2.2.2.2.1
def yH (x:tU):pM:=(iE x++IA x.2.2.2.2.2.2.1)++GA
section
variable {x:tU}(h:SS x) (h0:0≤x.2.2.2.2.2.1) (h4:x.2.2.2.2.2.1≤4)
include h
theorem aHN:(iA x).length≤216114010:=by
  have h1:=DD h.id;have h2:=YV h.com;simp only[iA,aTt,aTx,aTI];omega
theorem aHO:(iB x).length≤216150023:=by
  have h1:=aHN h;have h2:=aHL (p:=zS) pR h.src;unfold iB;rw[aTt];omega
theorem aHP:(iC x).length≤216186036:=by
  have h1:=aHO h;have h2:=aHL (p:=A9) pR h.tgt;unfold iC;rw[aTt];omega
include h0 h4
theorem aHQ:(iD x).length≤216186055:=by
  have h1:=aHP h;have h2:=aHM h0 h4;unfold iD;rw[aTt];omega
theorem aHR:(iE x).length≤252198064:=by
  have h1:=aHQ h h0 h4;have h2:=aP9 h.flg;unfold iE;rw[aTt];omega
theorem aQa:(yH x).length≤684282068:=by
  have h1:=aHR h h0 h4;have h2:=YW h.fld;simp only[yH,aTt,aTx,aTI];omega
theorem aQb:0≤x.2.2.2.2.2.1∧x.2.2.2.2.2.1<(w9.length:Int):=⟨h0,by simp only[w9,aTx,aTI];omega⟩
theorem aQc:MM x=some (yH x):=by
  have l1:=DD h.id;have l2:=YV h.com;have l3:=DD h.src;have l4:=DD h.tgt;have l5:=aHw h0 h4;have l6:=YW h.fld;have l7:=aHN h;have l8:=aHO h;have l9:=aHP h;have l10:=aHQ h h0 h4;have l11:=aHR h h0 h4;have hfl:=h.flg.1;have hst:=aQb h h0 h4;unfold MM;rw[N2 h.id,aTu,aTr (yT (by simp only[aTt,aTx,aTI];omega)),aTr (yT (by simp only[aTt,aTx,aTI];omega)),aHI h.com,aTu,aTr (yT (l:=((aHG++qt x.1)++[10])++GB x.2.2.2.1) (show (iA x).length≤_ by omega))]
  have e1:(if (!decide (x.2.1=([]:pM)))=true then
       (BE x.2.1).bind fun O=>
       if ((zS++O).length:Int)≤9223372036854775807 then
        if (((zS++O)++([10]:pM)).length:Int)≤9223372036854775807 then
         if ((iA x++((zS++O)++([10]:pM))).length:Int)≤9223372036854775807 then
          some ((iA x++((zS++O)++([10]:pM))))
         else none
        else none
       else none
      else some (iA x))=some (iB x):=by
    unfold iB GC;by_cases e:x.2.1=[]
    .rw[aTs (by simp [e]),aTr e,List.append_nil]
    rw[aTr (by simp [e]),aTs e,N2 h.src,aTu]
    repeat rw[aTr (yT (by simp only[aTt,aTx,aTI];omega))]
  refine(aTR (fun o=>uM o _) e1).trans ?_;unfold uM;rw[aTu]
  have e2:(if (!decide (x.2.2.1=([]:pM)))=true then
       (BE x.2.2.1).bind fun Z=>
       if ((A9++Z).length:Int)≤9223372036854775807 then
        if (((A9++Z)++([10]:pM)).length:Int)≤9223372036854775807 then
         if ((iB x++((A9++Z)++([10]:pM))).length:Int)≤9223372036854775807 then
          some ((iB x++((A9++Z)++([10]:pM))))
         else none
        else none
       else none
      else some (iB x))=some (iC x):=by
    unfold iC GC;by_cases e:x.2.2.1=[]
    .rw[aTs (by simp [e]),aTr e,List.append_nil]
    rw[aTr (by simp [e]),aTs e,N2 h.tgt,aTu]
    repeat rw[aTr (yT (by simp only[aTt,aTx,aTI];omega))]
  refine(aTR (fun o=>Option.bind o _) e2).trans ?_;rw[aTu]
  have e3:(if (!decide (x.2.2.2.2.2.1=(0:Int)))=true then
       if 0≤x.2.2.2.2.2.1∧x.2.2.2.2.2.1<(w9.length:Int) then
        if ((K7++qV .str w9 x.2.2.2.2.2.1).length:Int)≤9223372036854775807 then
         if (((K7++qV .str w9 x.2.2.2.2.2.1)++([10]:pM)).length:Int)≤9223372036854775807 then
          if ((iC x++((K7++qV .str w9 x.2.2.2.2.2.1)++([10]:pM))).length:Int)≤9223372036854775807 then
           some ((iC x++((K7++qV .str w9 x.2.2.2.2.2.1)++([10]:pM))))
          else none
         else none
        else none
       else none
      else some (iC x))=some (iD x):=by
    unfold iD PC;by_cases e:x.2.2.2.2.2.1=0
    .rw[aTs (by simp [e]),aTr e,List.append_nil]
    rw[aTr (by simp [e]),aTs e,aTr hst]
    repeat rw[aTr (yT (by simp only[aTt,aTx,aTI];omega))]
  refine(aTR (fun o=>Option.bind o _) e3).trans ?_;rw[aTu];by_cases e:x.2.2.2.2.1=[]
  · rw[aTs (by simp [e]),a8P h.fld,aTu,aTr (yT (by rw[aTt];omega)),aTr (yT (by simp only[aTt,aTx,aTI];omega))]
    unfold yH iE IB;rw[aTr e,List.append_nil]
  have hj:=aHK h.flg
  have hE:iD x++((PB++xL x.2.2.2.2.1 [32])++[10])=iE x:=by unfold iE IB;rw[aTs e]
  rw[aTr (by have:=aUk.2 e;simp;omega),aTr ⟨pQ,pQ⟩,aTr (yT (by simp only[aTt,aTx,aTI];omega)),aTr (yT (by simp only[aTt,aTx,aTI];omega)),aTr (yT (by simp only[aTt,aTx,aTI];omega)),a8P h.fld,aTu,hE,
    aTr (yT (by rw[aTt];omega)),aTr (yT (by simp only[aTt,aTx,aTI];omega))]
  rfl
end
def CB (c:C4):pM:=(((((K8++qt c.1)++[10])++GB c.2.1)++IA c.2.2.1))++GA
def aQd {c:C4}(hc:K4 c):(CB c).length<=900000000:=by
 have h1:=DD (s:=c.1) (by have:=hc.tag;omega);have h2:=YV hc.com;have h3:=YW hc.fld;simp only[CB,aTt,aTx,aTI];omega
def aHS {c:C4}(hc:K4 c):FZ c=some (if yS c=true then(CB c,c.2.2.2.1.map yH,0) else([],[],1)):=by
 unfold FZ;rw[aPQ hc.fitP,aTu];by_cases hok:yS c=true
 .have hl:=hc.len;have ht:c.1.length<=6000:=by have:=hc.tag;omega
  have h1:=DD ht;have h2:=YV hc.com;have h3:=YW hc.fld;have k:=YR (f:=RY c) (fun i b=>(i,b)) (fun b=>b) (n:=c.2.2.2.1.length) (M:=1000000) (B:=1) (fun i=>[yH (c.2.2.2.1.getD i eD)]) (fun i hi=>by simp) [] pT (fun i b hi hM=>by
   obtain⟨r0,r4⟩:=aHx (a8k hok hi);unfold RY;dsimp only;rw[aTr (wR hi),aTr (vB hi),aHk,aQc (hc.ent _ (SR hi)) r0 r4,aTu,aTr pT,aTr (yE pQ)]) (fun b=>by
   unfold RY;dsimp only;rw[aTs (A7 _)])
  rw[hok,aTs (show¬(!true)=true from by decide),aTr rfl,N2 ht,aTu]
  repeat rw[aTr (yT (by simp only[aTt,aTx,aTI];omega))]
  rw[aHI hc.com,aTu,aTr (yT (by simp only[aTt,aTx,aTI];omega)),a8P hc.fld,aTu]
  repeat rw[aTr (yT (by simp only[aTt,aTx,aTI];omega))]
  rw[k,a8I (l:=c.2.2.2.1) (d:=eD) (fun x=>[yH x])];unfold uM;rw[aTu,List.nil_append,aPW];rfl
 simp only[aUH] at hok;rw[hok,aTr (show (!false)=true from rfl),aTs pR]
def aQe {c:C4}(hc:K4 c) (hok:yS c=true): ∀x∈([CB c]++c.2.2.2.1.map yH)++[[]],x.length<=2000000000:=by
 intro x hx;simp only[aUe,aTH,List.mem_map] at hx;rcases hx with(rfl|⟨y,hy,rfl⟩) |rfl
 .have:=aQd hc;omega
 .obtain⟨i,hi,rfl⟩:=aU0 hy;have he:=a8k hok hi;rw[aTM,aTy hi] at he;obtain⟨r0,r4⟩:=aHx he;have:=aQa (hc.ent _ hy) r0 r4;omega
 simp
def GD (c:C4):pM:=G9 (CB c) (c.2.2.2.1.map yH) []
def aQf {c:C4}(hc:K4 c) (hok:yS c=true):(GD c).length<=2004000000000:=by
 have h:=aQe hc hok;have hl:=hc.len;have e:GD c=(([CB c]++c.2.2.2.1.map yH)++[[]]).flatMap (fun x=>x):=by
  unfold GD G9;simp [List.flatMap_def];rfl
 have:=K6 (l:=([CB c]++c.2.2.2.1.map yH)++[[]]) (h:=fun x=>x) (B:=2000000000) h;rw[e];simp only[aTt,aUu,aUl] at this;omega
def aQg {c:C4}(hc:K4 c):JZ c=some (if yS c=true then(GD c,0) else([],1)):=by
 unfold JZ;rw[aHS hc,aTu];by_cases hok:yS c=true
 .have hl:=hc.len;have:=aQf hc hok;rw[aTr hok,aTr hok];dsimp only;rw[a8K (CB c,(c.2.2.2.1.map yH,([],()))) pT (by show (GD c).length<=_;omega),aTu];rfl
 rw[aTs hok,aTs hok];dsimp only;rw[a8K ([],([],([],()))) pS (by simp [G9]),aTu];rfl
def IC (l:pM):Prop:= ∃u,l=u++[10]/\(10:UInt8)∉u
def BO (ls:pN):Prop:= ∀l∈ls,IC l
def ST:pN->Prop
 |[]=>True
 |l::r=>(IC l\/(r=[]/\l≠[]/\(10:UInt8)∉l))/\ST r
def ID:Nat->pM->pN
 |0,_=>[]
 |n+1,s=>if s=[] then[] else s.take (tG s 0)::ID n (s.drop (tG s 0))
def DE (s:pM):pN:=ID s.length s
def aQh {s:pM}{a:Nat}(h:a<=s.length):tG s a=a+tG (s.drop a) 0:=by
 unfold tG;rw[aUN,aT2];split<;>omega
def YX {s:pM}(h:s≠[]):0<tG s 0/\tG s 0<=s.length:=SI (aUk.2 h)
def aQi {u t:pM}(h:(10:UInt8)∉u):tG ((u++[10])++t) 0=(u++[10]).length:=by
 have hl:((u++[10])++t)[u.length]? =some 10:=by simp
 rw[aPd (i:=u.length) (aUp _) pS (fun j hj _ hju=>?_) (by
  have:=hl;rw[aTy pS] at this;exact aTv this)]
 .simp
 intro h10;have e:((u++[10])++t)[j]? =some u[j]:=by
  rw[aTD,aTK hju,aTy hju]
 rw[aTy hj,h10] at e;exact h (by rw[aTv e];exact aUF _)
def aQj {u:pM}(h:(10:UInt8)∉u):tG u 0=u.length:=
 aPe fun j hj _ h10=>h (h10▸aUF hj)
def aHT: ∀(n:Nat) (s:pM),s.length<=n->(ID n s).flatten=s
 |0,s,h=>by
  have:s=[]:=aUi.1 pQ;subst this;rfl
 |n+1,s,h=>by
  unfold ID;by_cases hs:s=[]
  .rw[aTr hs,hs];rfl
  obtain⟨h1,h2⟩:=YX hs;rw[aTs hs,aUd,aHT n _ (by rw[aT2];omega),aUS]
def aQk (s:pM):(DE s).flatten=s:=aHT _ _ (aTO _)
def aHU: ∀(n m:Nat) (s:pM),s.length<=n->n<=m->ID m s=ID n s
 |0,m,s,h,_=>by
  have:s=[]:=aUi.1 pQ;subst this;cases m<;>simp [ID]
 |n+1,m,s,h,hm=>by
  obtain⟨m',rfl⟩: ∃m',m=m'+1:=⟨m-1,pQ⟩;unfold ID;by_cases hs:s=[]
  .rw[aTr hs,aTr hs]
  obtain⟨h1,h2⟩:=YX hs;rw[aTs hs,aTs hs,aHU n m' _ (by rw[aT2];omega) pQ]
def a8R {s:pM}(hs:s≠[]):DE s=s.take (tG s 0)::DE (s.drop (tG s 0)):=by
 obtain⟨h1,h2⟩:=YX hs;have hl:=aUk.2 hs;unfold DE;obtain⟨k,hk⟩: ∃k,s.length=k+1:=⟨s.length-1,pQ⟩;rw[hk,ID,aTs hs,aHU (s.drop (tG s 0)).length k _ (aTO _) (by rw[aT2];omega)]
def aQl {u t:pM}(h:(10:UInt8)∉u):DE ((u++[10])++t)=(u++[10])::DE t:=by
 rw[a8R pS,aQi h,aUQ,aVx]
def aHV: ∀(ls:pN),ST ls->DE ls.flatten=ls
 |[],_=>rfl
 |l::r,⟨h1,h2⟩=>by
  rw[aUd];rcases h1 with⟨u,rfl,hu⟩ |⟨rfl,hl,hu⟩
  .rw[aQl hu,aHV r h2]
  rw[List.flatten_nil,List.append_nil,a8R hl,aQj hu,List.take_length,aUG];rfl
def a8S: ∀{A B:pN},BO A->ST B->ST (A++B)
 |[],_,_,h=>h
 |l::A,B,hA,h=>⟨.inl (hA l aTJ),a8S (fun x hx=>hA x (aTB _ hx)) h⟩
def K9 {A B:pN}(hA:BO A) (hB:BO B):BO (A++B):=fun x hx=>(aUe.1 hx).elim (hA x) (hB x)
def aHW {u:pM}:tM (u++[10])=u:=by
 unfold tM;rw[aTr pS];simp
def tS:pN->St->Nat->(Nat×Int)⊕St
 |[],st,_=> .inr st
 |l::ls,st,a=>if (tB st (tM l) ((a+l.length:Nat):Int)).1=0 then tS ls (tB st (tM l) ((a+l.length:Nat):Int)).2 (a+l.length) else .inl (a,(tB st (tM l) ((a+l.length:Nat):Int)).1)
def KA (l:pM) (ls:pN) (st:St) (a:Nat):tS (l::ls) st a=if (tB st (tM l) ((a+l.length:Nat):Int)).1=0 then tS ls (tB st (tM l) ((a+l.length:Nat):Int)).2 (a+l.length) else .inl (a,(tB st (tM l) ((a+l.length:Nat):Int)).1):=rfl
def aHX {s:pM}: ∀(n a:Nat) (st:St),a<=s.length->s.length<n+a->BM s n st a=tS (DE (s.drop a)) st a
 |0,a,_,h,hn=>by omega
 |n+1,a,st,h,hn=>by
  unfold BM;by_cases ha:a<s.length
  .have hne:s.drop a≠[]:=fun e=>by
    have:=aTR List.length e;simp only[aT2,aTI] at this;omega
   have e:=aQh h;obtain⟨h1,h2⟩:=YX hne;rw[aT2] at h2;have hlen:((s.drop a).take (tG (s.drop a) 0)).length=tG (s.drop a) 0:=by rw[aUg,aT2];omega
   have hat:F5 s a=(s.drop a).take (tG (s.drop a) 0):=by
    unfold F5;rw[show tG s a-a=tG (s.drop a) 0 by omega]
   rw[aTr ha,a8R hne,tS,hat,hlen,<-e,aHX n _ _ pQ pQ];rw[aVy,show a+tG (s.drop a) 0=tG s a by omega]
  have:a=s.length:=by omega
  subst this;rw[aTs ha,aUG];rfl
def aHY (s:pM):zR s=match tS (DE s) t8 0 with
 | .inl q=> .inl q
 | .inr st=>if st.op=true\/st.ends=[] then .inl (s.length,3) else .inr st:=by
 unfold zR;rw[aHX _ 0 _ (aUp _) pQ,aUN]
 first|done|rfl
def aHZ: ∀(A B:pN) (st:St) (a:Nat) {st':St},tS A st a= .inr st'->tS (A++B) st a=tS B st' (a+A.flatten.length)
 |[],B,st,a,st',h=>by
  cases h;simp
 |l::A,B,st,a,st',h=>by
  rw[List.cons_append,KA];rw[KA] at h;by_cases h0:(tB st (tM l) ((a+l.length:Nat):Int)).1=0
  .rw[aTr h0] at h|-;rw[aHZ A B _ _ h,aUd,aTt,aT3]
  rw[aTs h0] at h;cases h
def aH0: ∀(A B:pN) (st:St) (a:Nat) {st':St},tS (A++B) st a= .inr st'->∃m,tS A st a= .inr m/\tS B m (a+A.flatten.length)= .inr st'
 |[],B,st,a,st',h=>⟨st,rfl,by simpa using h⟩
 |l::A,B,st,a,st',h=>by
  rw[List.cons_append,KA] at h;rw[KA];by_cases h0:(tB st (tM l) ((a+l.length:Nat):Int)).1=0
  .rw[aTr h0] at h|-;obtain⟨m,g1,g2⟩:=aH0 A B _ _ h;exact⟨m,g1,by rw[aUd,aTt,<-aT3];exact g2⟩
  rw[aTs h0] at h;cases h
def KB {l:pM}{st st':St}{a:Nat}(h:tB st (tM l) ((a+l.length:Nat):Int)=(0,st')):tS [l] st a= .inr st':=by
 rw[KA,h,aTr rfl];rfl
def aQm {l:pM}{st st':St}{a:Nat}(h:tS [l] st a= .inr st'):tB st (tM l) ((a+l.length:Nat):Int)=(0,st'):=by
 rw[KA] at h;by_cases h0:(tB st (tM l) ((a+l.length:Nat):Int)).1=0
 .rw[aTr h0] at h;have:=Sum.inr.inj h;rw[<-this,<-h0]
 rw[aTs h0] at h;cases h
def Ws (s:pM) (l:List Wd):Prop:= ∀n,s.length<n->xR n s=some l
def aQn {s:pM}{l:List Wd}(h:Ws s l):G2 s=some l:=h _ (Nat.lt_succ_self _)
def SU:Ws [] []:=fun n hn=>by
 obtain⟨m,rfl⟩: ∃m,n=m+1:=⟨n-1,by simp at hn;omega⟩;exact aOS m
def aH1 {b:UInt8}(h:tR b=true):tO b=false:=by
 have h1:=(a8p b).1 h;cases hg:tO b with
 |false=>rfl
 |true=>
      rcases(aGr b).1 hg with e|e
      .exact absurd e h1.1
      exact absurd e h1.2.1
def aH2 {b:UInt8}(h:tO b=true):tR b=false:=by
 cases hp:tR b with
 |false=>rfl
 |true=>rw[aH1 hp] at h;cases h
def aQo {z:pM}(h:F1 z=true):z.dropWhile tR=z/\z.head?≠some 34:=by
 cases z with
 |nil=>exact⟨rfl,by simp⟩
 |cons b u=>
  have hb:tO b=true:=h;refine⟨List.dropWhile_cons_of_neg (by rw[aH2 hb];simp),fun e=>?_⟩;have:b=34:=by simpa using e
  rw[this] at hb;exact absurd hb pR
def N3 {g w z:pM}{l:List Wd}(hg: ∀b∈g,tO b=true) (hw:w≠[]) (hp: ∀b∈w,tR b=true) (hz:F1 z=true) (h:Ws z l):Ws (g++(w++z)) ((false,w,())::l):=by
 intro n hn;obtain⟨m,rfl⟩: ∃m,n=m+1:=⟨n-1,pQ⟩;obtain⟨hz1,hz2⟩:=aQo hz;obtain⟨b,u,rfl⟩: ∃b u,w=b::u:=by
  cases w with
  |nil=>exact absurd rfl hw
  |cons b u=>exact⟨b,u,rfl⟩
 have hb:=hp b aTJ;have e:(g++(b::u++z)).dropWhile tO=b::u++z:=by
  rw[List.dropWhile_append_of_pos hg,List.cons_append,List.dropWhile_cons_of_neg (by rw[aH1 hb];simp)]
 have e1:(b::u++z).dropWhile tR=z:=by rw[List.dropWhile_append_of_pos hp,hz1]
 have e2:(b::u++z).takeWhile tR=b::u:=by
  rw[List.takeWhile_append_of_pos hp];have:z.takeWhile tR=[]:=by
   cases z with
   |nil=>rfl
   |cons c v=>exact List.takeWhile_cons_of_neg (by rw[aH2 hz];simp)
  rw[this,List.append_nil]
 have hnx:AQ (b::u++z)=some ((false,b::u,()),z):=by
  unfold AQ;rw[aTs (by
   intro h;have:b=34:=by simpa using h
   exact((a8p b).1 hb).2.2 this),e1,aTs hz2,e2]
 unfold xR;rw[e,aTs pS,hnx];show (xR m z).map _=_;rw[h m (by simp only[aTt,aTx] at hn;omega)];rfl
def aQp (x z:pM):qt x++z=34::(wU 2 x++34::z):=by simp [qt]
def a8T {g x z:pM}{l:List Wd}(hg: ∀b∈g,tO b=true) (hx:sO x=true) (hz:F1 z=true) (h:Ws z l):Ws (g++(qt x++z)) ((true,x,())::l):=by
 intro n hn;obtain⟨m,rfl⟩: ∃m,n=m+1:=⟨n-1,pQ⟩;rw[aQp] at hn|-;have e:(g++(34::(wU 2 x++34::z))).dropWhile tO=34::(wU 2 x++34::z):=by
  rw[List.dropWhile_append_of_pos hg,List.dropWhile_cons_of_neg pR]
 have hE:tY 34 (wU 2 x++34::z)=some (wU 2 x).length:=aP1 (n:=2) rfl x z;have hU:wS 2 (wU 2 x)=(x,0,0):=aP0 (n:=2) rfl x;have hD:(34::(wU 2 x++34::z)).drop ((wU 2 x).length+2)=z:=by
  rw[show (34::(wU 2 x++34::z))=(34::wU 2 x++[34])++z by simp,List.drop_append_of_le_length pS];rw[List.drop_of_length_le pS];rfl
 have hnx:AQ (34::(wU 2 x++34::z))=some ((true,x,()),z):=by
  unfold AQ;rw[aTr (show (34::(wU 2 x++34::z)).head? =some 34 from rfl)];rw[show (34::(wU 2 x++34::z)).drop 1=wU 2 x++34::z from rfl,hE];dsimp only;rw[aUQ,hU,hD,aTr ⟨rfl,hx,hz⟩]
 unfold xR;rw[e,aTs pS,hnx];show (xR m z).map _=_;rw[h m (by simp only[aTt,aTx] at hn;omega)];rfl
def IE {g k u:pM}(hg: ∀b∈g,tO b=true) (hk:(match k with|[]=>false|b::_=> !tO b&&decide (b≠35))=true):AS (g++(k++u))=false:=by
 obtain⟨b,v,rfl⟩: ∃b v,k=b::v:=by
  cases k with
  |nil=>cases hk
  |cons b v=>exact⟨b,v,rfl⟩
 simp only[aTL,aTV,aTN] at hk;obtain⟨hb,h5⟩:=hk;rw[List.cons_append];unfold AS;rw[List.dropWhile_append_of_pos hg,List.dropWhile_cons_of_neg (by rw[hb];simp)];simp [h5]
def IF {s:St}{line:pM}{l:List Wd}(n:Int) (hf:AS line=false) (h:Ws line l):tB s line n=rJ s n (z7 l):=by
 unfold tB;rw[aQn h];exact aTs (by rw[hf];simp)
def YY {s:St}{line:pM}(n:Int) (hf:AS line=true):tB s line n=(0,s):=by
 unfold tB;exact aTr hf
def DW: ∀b∈([32,32]:pM),tO b=true:=by decide
def SV: ∀b∈([32]:pM),tO b=true:=by decide
def PD: ∀b∈([]:pM),tO b=true:=by simp
def SW {g k x:pM}(hg: ∀b∈g,tO b=true) (hk:k≠[]) (hp: ∀b∈k,tR b=true) (hx:sO x=true):Ws (g++(k++([32]++(qt x++[])))) [(false,k,()),(true,x,())]:=
 N3 hg hk hp rfl (a8T SV hx rfl SU)
def aQq {s:St}{x:pM}(n:Int) (hx:sO x=true):tB s (YU++qt x) n=rJ s n (.com x):=by
 have e:YU++qt x=[32,32]++(vN++([32]++(qt x++[]))):=by simp [vN]
 rw[e,IF n (IE DW pR) (SW DW pR pR hx)];rfl
def aQr {s:St}{x:pM}(n:Int) (hx:sO x=true):tB s (zS++qt x) n=rJ s n (.src x):=by
 have e:zS++qt x=[32,32]++(u1++([32]++(qt x++[]))):=by simp [u1]
 rw[e,IF n (IE DW pR) (SW DW pR pR hx)];rfl
def aQs {s:St}{x:pM}(n:Int) (hx:sO x=true):tB s (A9++qt x) n=rJ s n (.tgt x):=by
 have e:A9++qt x=[32,32]++(u6++([32]++(qt x++[]))):=by simp [u6]
 rw[e,IF n (IE DW pR) (SW DW pR pR hx)];rfl
abbrev DX:pM:=[101,110,116,114,121,32]
def aQt {s:St}{x:pM}(n:Int) (hx:sO x=true):tB s (DX++qt x) n=rJ s n (.beg false x):=by
 have e:DX++qt x=[]++(G3++([32]++(qt x++[]))):=by simp [G3]
 rw[e,IF n (IE PD pR) (SW PD pR pR hx)];rfl
def aQu {s:St}{x:pM}(n:Int) (hx:sO x=true):tB s (K8++qt x) n=rJ s n (.beg true x):=by
 have e:K8++qt x=[]++(DC++([32]++(qt x++[]))):=by simp [DC]
 rw[e,IF n (IE PD pR) (SW PD pR pR hx)];rfl
abbrev SX (f:sW):pM:=((aHF++qt f.1)++[32])++qt f.2.1
def aQv {s:St}{f:sW}(n:Int) (h1:uU f.1=true) (h2:sO f.2.1=true):tB s (SX f) n=rJ s n (.fld f.1 f.2.1):=by
 have e:SX f=[32,32]++(wB++([32]++(qt f.1++([32]++(qt f.2.1++[]))))):=by simp [wB,SX]
 rw[e,IF n (IE DW pR) (N3 DW pR pR rfl (a8T SV (a8l h1) rfl (a8T SV h2 rfl SU)))];have:z7 [(false,wB,()),(true,f.1,()),(true,f.2.1,())]= .fld f.1 f.2.1:=by
  show ((F3 [(true,f.1,()),(true,f.2.1,())]).map fun q=>vS.fld q.1 q.2).getD .bad=_;rw[show F3 [(true,f.1,()),(true,f.2.1,())]=some (f.1,f.2.1) from aTr ⟨⟨rfl,rfl⟩,h1⟩];rfl
 rw[this]
def aQw {s:St}(n:Int):tB s [101,110,100] n=rJ s n .fin:=by
 have e:([101,110,100]:pM)=[]++(MX++[]):=by simp [MX]
 rw[e,IF n (IE PD pR) (N3 PD pR pR rfl SU)];rfl
def aQx {s:St}{v:Int}(n:Int) (h0:0<=v) (h4:v<=4):tB s (K7++qV .str w9 v) n=rJ s n (.sta v):=by
 have hw:qV .str w9 v≠([]:pM)/\∀b∈qV .str w9 v,tR b=true:=by
  have:v=0\/v=1\/v=2\/v=3\/v=4:=by omega
  rcases this with rfl|rfl|rfl|rfl|rfl<;>decide
 have e:K7++qV .str w9 v=[32,32]++(xA++([32]++(qV .str w9 v++[]))):=by simp [xA]
 rw[e,IF n (IE DW pR) (N3 DW pR pR rfl (N3 SV hw.1 hw.2 rfl SU))];have:z7 [(false,xA,()),(false,qV .str w9 v,())]= .sta v:=by
  show ((F2 [(false,qV .str w9 v,())]).map vS.sta).getD .bad=_;have hs:F2 [(false,qV .str w9 v,())]=some (zP (qV .str w9 v)):=aTr ⟨rfl,by rw[aHC h0 h4];exact h0⟩;rw[hs,aHC h0 h4];rfl
 rw[this]
def aQy:((List.range 256).all fun b=>yZ (b:Int)||(tR b.toUInt8&&decide (b≠10)))=true:=by kernel_rfl
def aH3 {b:UInt8}(h:yZ b.toNat=false):tR b=true/\b≠10:=by
 have:=aUr.1 aQy b.toNat (by simpa using UInt8.toNat_lt b);rw[h] at this;simp only[Bool.false_or,aTL,aTN] at this;refine⟨?_,fun e=>this.2 (by rw[e];rfl)⟩;have e:b.toNat.toUInt8=b:=by simp
 rw[e] at this;exact this.1
def aH4 {x:pM}(h:uU x=true):x≠[]/\∀b∈x,tR b=true/\b≠10:=by
 cases x with
 |nil=>cases h
 |cons b t=>
  unfold uU at h;simp only[aTL,aTV,aT9] at h;refine⟨by simp,fun c hc=>?_⟩;rcases aTE.1 hc with rfl|hc
  .apply aH3;have h2:=h.1.2;unfold BI at h2;unfold yZ;rw[h2];rfl
  exact aH3 (by simpa using h.2 c hc)
def DF (l:pN):pM:=l.flatMap fun y=>[32]++y
def aH5 (l:pN):F1 (DF l)=true:=by cases l<;>rfl
def aH6: ∀(l:pN),(∀x∈l,uU x=true)->Ws (DF l) (l.map fun y=>(false,y,()))
 |[],_=>SU
 |x::r,h=>by
  have hx:=aH4 (h x aTJ);have e:DF (x::r)=[32]++(x++DF r):=by simp [DF]
  rw[e,aUt];exact N3 SV hx.1 (fun b hb=>(hx.2 b hb).1) (aH5 r) (aH6 r fun y hy=>h y (aTB _ hy))
def aQz {s:St}{l:pN}(n:Int) (hne:l≠[]) (h: ∀x∈l,uU x=true):tB s (PB++xL l [32]) n=rJ s n (.flg l):=by
 have e:PB++xL l [32]=[32,32]++(wI++DF l):=by
  cases l with
  |nil=>exact absurd rfl hne
  |cons x r=>rw[a8Q];simp [wI,DF]
 rw[e,IF n (IE DW pR) (N3 DW pR pR (aH5 l) (aH6 l h))];have e2:t7 (l.map fun y=>((false,y,()):Wd))=l:=by
  unfold t7;rw[List.map_map]
  conv=>rhs;rw[<-List.map_id l]
  congr 1
 have:z7 ((false,wI,())::l.map fun y=>(false,y,()))= .flg l:=by
  show (if (l.map fun y=>((false,y,()):Wd))=[]\/((l.map fun y=>((false,y,()):Wd)).any F4)=true then vS.bad else .flg (t7 (l.map fun y=>((false,y,()):Wd))))=_;rw[aTs,e2];rintro(h1|h1)
  .exact hne (List.map_eq_nil_iff.1 h1)
  rw[List.any_map,List.any_eq_true] at h1;obtain⟨x,hx,h2⟩:=h1;simp only[Function.comp,F4,Bool.false_or,h x hx] at h2;cases h2
 rw[this]
def aQA:((List.range 256).all fun b=>[true,false].all fun f=> !((yG 2 b f).contains 10))=true:=by kernel_rfl
def aH7: ∀(s:pM) (f:Bool),(10:UInt8)∉BN 2 f s
 |[],_=>by simp [BN]
 |b::t,f=>by
  unfold BN;intro h;rcases aUe.1 h with h|h
  .have hf:f∈[true,false]:=by cases f<;>simp
   have:=aUr.1 (aUr.1 aQA b.toNat (by simpa using UInt8.toNat_lt b)) f hf;simp at this;exact this h
  exact aH7 t false h
def aH8 (x:pM):(10:UInt8)∉qt x:=by
 unfold qt;rw[a8L];intro h;simp only[aUe,aTH] at h;rcases h with(h|h) |h
 .exact absurd h pR
 .exact aH7 x true h
 exact absurd h pR
def SY {p x:pM}(hp:(10:UInt8)∉p):(10:UInt8)∉p++qt x:=fun h=>(aUe.1 h).elim hp (aH8 x)
structure aQB (x:tU):Prop where
 id0:x.1≠[]
 idl:x.1.length<=200
 idt:sO x.1=true
 sc:sO x.2.1=true
 tg:sO x.2.2.1=true
 cm:x8 x.2.2.2.1=true
 fg:DT x.2.2.2.2.1=true
 sv0:0<=x.2.2.2.2.2.1
 sv4:x.2.2.2.2.2.1<=4
 fd:wA x.2.2.2.2.2.2.1=true
def a8U {x:tU}(h:zQ x=true):aQB x:=by
 unfold zQ at h;simp only[aTL,aTN,aTV,aT5] at h;obtain⟨⟨⟨⟨⟨⟨⟨⟨h1,h2⟩,h3⟩,h4⟩,h5⟩,h6⟩,h7⟩,h8,h9⟩,h10⟩:=h;exact⟨h1,pQ,h3,h4,h5,h6,h7,h8,h9,h10⟩
def xC (p s:pM):pN:=if s=[] then[] else[(p++qt s)++[10]]
def DY (n:Int):pN:=if n=0 then[] else[(K7++qV .str w9 n)++[10]]
def F7 (l:pN):pN:=if l=[] then[] else[(PB++xL l [32])++[10]]
def BP (x:tU):pN:=[10]::(((DX++qt x.1)++[10])::(x.2.2.2.1.map wV++(xC zS x.2.1++(xC A9 x.2.2.1++(DY x.2.2.2.2.2.1++(F7 x.2.2.2.2.1++(x.2.2.2.2.2.2.1.map zT++[GA])))))))
def GE (c:C4):pN:=((K8++qt c.1)++[10])::(c.2.1.map wV++(c.2.2.1.map zT++[GA]))
def aQC (p s:pM):(xC p s).flatten=GC p s:=by
 unfold xC GC;split<;>simp
def aQD (n:Int):(DY n).flatten=PC n:=by
 unfold DY PC;split<;>simp
def aQE (l:pN):(F7 l).flatten=IB l:=by
 unfold F7 IB;split<;>simp
def aQF (x:tU):(BP x).flatten=yH x:=by
 unfold BP yH iE iD iC iB iA;simp only[aUd,List.flatten_append,aQC,aQD,aQE,List.flatten_nil,List.append_nil,<-List.flatMap_def];unfold GB IA;simp
def a8V (c:C4):(GE c).flatten=CB c:=by
 unfold GE CB;simp only[aUd,List.flatten_append,List.flatten_nil,List.append_nil,<-List.flatMap_def];unfold GB IA;simp
def KC {u:pM}(h:(10:UInt8)∉u):IC (u++[10]):=⟨u,rfl,h⟩
def aH9 (x:pM):IC (wV x):=KC (SY pR)
def aIa (f:sW):IC (zT f):=KC (u:=SX f) fun h=>by
 rcases aUe.1 h with h|h
 .rcases aUe.1 h with h|h
  .exact SY pR h
  exact absurd h pR
 exact aH8 _ h
def aIb:IC GA:=⟨[101,110,100],rfl,pR⟩
def aIc {p s:pM}(hp:(10:UInt8)∉p):BO (xC p s):=fun l hl=>by
 unfold xC at hl;split at hl
 .cases hl
 rw[aTH.1 hl];exact KC (SY hp)
def YZ {α:Type}{f:α->pM}(h: ∀x,IC (f x)) (l:List α):BO (l.map f):=fun x hx=>by
 obtain⟨y,_,rfl⟩:=List.mem_map.1 hx;exact h y
def aId {l:pM}(h:IC l):BO [l]:=fun x hx=>by rw[aTH.1 hx];exact h
def aQG {n:Int}(h0:0<=n) (h4:n<=4):BO (DY n):=fun l hl=>by
 unfold DY at hl;split at hl
 .cases hl
 rw[aTH.1 hl];refine KC ?_;have:n=0\/n=1\/n=2\/n=3\/n=4:=by omega
 rcases this with rfl|rfl|rfl|rfl|rfl<;>decide
def aQH (l:pN) (h: ∀x∈l,uU x=true):(10:UInt8)∉DF l:=fun hm=>by
 unfold DF at hm;obtain⟨y,hy,h1⟩:=List.mem_flatMap.1 hm;rcases aUe.1 h1 with h2|h2
 .exact absurd h2 pR
 exact((aH4 (h y hy)).2 _ h2).2 rfl
def aIe {x:pM}{r:pN}:[32]++xL (x::r) [32]=DF (x::r):=by
 rw[a8Q];simp [DF]
def aQI {l:pN}(h: ∀x∈l,uU x=true):BO (F7 l):=fun q hq=>by
 unfold F7 at hq;split at hq
 .cases hq
 rename_i hne;rw[aTH.1 hq];refine KC fun hm=>?_;cases l with
 |nil=>exact hne rfl
 |cons x r=>
  have e:PB++xL (x::r) [32]=[32,32,102,108,97,103,115]++DF (x::r):=by rw[<-aIe];simp
  rw[e] at hm;rcases aUe.1 hm with h2|h2
  .exact absurd h2 pR
  exact aQH _ h h2
def a8W {l:pM}{r:pN}(h:IC l) (hr:BO r):BO (l::r):=fun x hx=>(aTE.1 hx).elim (fun e=>e▸h) (hr x)
def aQJ {x:tU}(h:zQ x=true):BO (BP x):=by
 have p:=a8U h;exact a8W (KC (u:=[]) pS) (a8W (KC (SY pR)) (K9 (YZ aH9 _) (K9 (aIc pR) (K9 (aIc pR)
  (K9 (aQG p.sv0 p.sv4) (K9 (aQI (YH p.fg).2.1) (K9 (YZ aIa _) (aId aIb))))))))
def aQK (c:C4):BO (GE c):=a8W (KC (SY pR)) (K9 (YZ aH9 _) (K9 (YZ aIa _) (aId aIb)))
def Z0 {s s':St}{u:pM}{a:Nat}(h: ∀n,tB s u n=(0,s')):tS [u++[10]] s a= .inr s':=KB (by rw[aHW];exact h _)
def SZ {s s':St}{u:pM}{ls:pN}{a:Nat}(h: ∀n,tB s u n=(0,s')):tS ((u++[10])::ls) s a=tS ls s' (a+(u++[10]).length):=by
 rw[KA,aHW,h,aTr rfl]
def a8X: ∀(l:pN) (s:St) (a:Nat),s.op=true->s.cm.length+l.length<=20->(∀x∈l,sO x=true)->
  ∃la na,tS (l.map wV) s a= .inr {s with cm:=s.cm++l,last:=la,name:=na}
 |[],s,a,_,_,_=>⟨s.last,s.name,by rw[List.append_nil];rfl⟩
 |x::r,s,a,ho,hl,hx=>by
  rw[aTx] at hl;obtain⟨la,na,e⟩:=a8X r {s with cm:=s.cm++[x],last:=vN,name:=[]} (a+(wV x).length) ho pT (fun y hy=>hx y (aTB _ hy))
  refine⟨la,na,?_⟩;rw[aUt];refine(SZ (u:=YU++qt x) (s':={s with cm:=s.cm++[x],last:=vN,name:=[]}) fun n=>?_).trans (e.trans ?_)
  .rw[aQq n (hx x aTJ),rJ,aTs (by rw[ho];simp),aTs pQ]
  simp
def a8Y: ∀(l:List sW) (s:St) (a:Nat),s.op=true->s.fd.length+l.length<=20->(∀x∈l,uU x.1=true/\sO x.2.1=true)->(s.fd++l).Pairwise (fun a b=>a.1<b.1)->
  ∃la na,tS (l.map zT) s a= .inr {s with fd:=s.fd++l,last:=la,name:=na}
 |[],s,a,_,_,_,_=>⟨s.last,s.name,by rw[List.append_nil];rfl⟩
 |x::r,s,a,ho,hl,hx,hp=>by
  rw[aTx] at hl;have hlt: ∀y∈s.fd,y.1<x.1:=fun y hy=>(aVk.1 hp).2.2 y hy x aTJ;have hx1:(x.1,(x.2.1,()))=x:=rfl;obtain⟨la,na,e⟩:=a8Y r {s with fd:=s.fd++[x],last:=wB,name:=x.1} (a+(zT x).length) ho pT (fun y hy=>hx y (aTB _ hy)) (by simpa using hp)
  refine⟨la,na,?_⟩;rw[aUt];refine(SZ (u:=SX x) (s':={s with fd:=s.fd++[x],last:=wB,name:=x.1}) fun n=>?_).trans (e.trans ?_)
  .have hno: ¬(s.fd.any fun y=>decide (y.1=x.1))=true:=fun h=>by
    obtain⟨y,hy,h2⟩:=List.any_eq_true.1 h;have:=hlt y hy;rw[aT6 h2] at this;exact List.lt_irrefl _ this
   rw[aQv n (hx x aTJ).1 (hx x aTJ).2,rJ,aTs (by rw[ho];simp),aTs hno,aTs pQ,aP2 hlt]
  simp
def aQL {x:pM}{s:St}{a:Nat}(ho:s.op=true) (he:s.ends≠[]) (hb:s.bs=false) (h0:s.sc=[]) (hx:sO x=true): ∃b la na,tS (xC zS x) s a= .inr {s with sc:=x,bs:=b,last:=la,name:=na}:=by
 unfold xC;split
 .rename_i hn;exact⟨s.bs,s.last,s.name,by rw[hn,<-h0];rfl⟩
 exact⟨true,u1,[],Z0 fun n=>by rw[aQr n hx,rJ,aTs (by simp [ho,he]),aTs (by simp [hb])]⟩
def aQM {x:pM}{s:St}{a:Nat}(ho:s.op=true) (he:s.ends≠[]) (hb:s.bt=false) (h0:s.tg=[]) (hx:sO x=true): ∃b la na,tS (xC A9 x) s a= .inr {s with tg:=x,bt:=b,last:=la,name:=na}:=by
 unfold xC;split
 .rename_i hn;exact⟨s.bt,s.last,s.name,by rw[hn,<-h0];rfl⟩
 exact⟨true,u6,[],Z0 fun n=>by rw[aQs n hx,rJ,aTs (by simp [ho,he]),aTs (by simp [hb])]⟩
def aQN {v:Int}{s:St}{a:Nat}(ho:s.op=true) (he:s.ends≠[]) (hb:s.bh=false) (h0:s.sv=0) (h1:0<=v) (h4:v<=4): ∃b la na,tS (DY v) s a= .inr {s with sv:=v,bh:=b,last:=la,name:=na}:=by
 unfold DY;split
 .rename_i hn;exact⟨s.bh,s.last,s.name,by rw[hn,<-h0];rfl⟩
 exact⟨true,[],[],Z0 fun n=>by rw[aQx n h1 h4,rJ,aTs (by simp [ho,he]),aTs (by simp [hb])]⟩
def aQO {l:pN}{s:St}{a:Nat}(ho:s.op=true) (he:s.ends≠[]) (hb:s.bf=false) (h0:s.fg=[]) (hf:DT l=true): ∃b la na,tS (F7 l) s a= .inr {s with fg:=l,bf:=b,last:=la,name:=na}:=by
 unfold F7;split
 .rename_i hn;exact⟨s.bf,s.last,s.name,by subst hn;rw[show ({s with fg:=[],bf:=s.bf,last:=s.last,name:=s.name}:St)=s from by cases s;cases h0;rfl];rfl⟩
 rename_i hn;obtain⟨f1,f2,f3⟩:=YH hf;have hd:BL l=false:=(aOW l).2 (aGz f3);exact⟨true,[],[],Z0 fun n=>by rw[aQz n hn f2,rJ,aTs (by simp [ho,he]),aTs (by simp [hb,hd]),aTs pQ,aOU f3]⟩
def aIf {s:St}{a:Nat}(ho:s.op=true):tS [GA] s a= .inr (tJ (if s.ends=[] then(s.c.1,(s.cm,(s.fd,s.c.2.2.2))) else(s.c.1,(s.c.2.1,(s.c.2.2.1,(s.c.2.2.2.1++[s.x],()))))) (s.ends++[((a+4:Nat):Int)])):=
 KB (by rw[show tM GA=[101,110,100] from rfl,aQw,rJ,aTs (by rw[ho];simp)];rfl)
def aQP {s:St}{a:Nat}(ho:s.op=true) (he:s.ends≠[]):tS [GA] s a= .inr (tJ (s.c.1,(s.c.2.1,(s.c.2.2.1,(s.c.2.2.2.1++[s.x],())))) (s.ends++[((a+4:Nat):Int)])):=by
 rw[aIf ho,aTs he]
def AA {A B:pN}{s m:St}{r:(Nat×Int)⊕St}{a:Nat}(h:tS A s a= .inr m) (h2:tS B m (a+A.flatten.length)=r):tS (A++B) s a=r:=(aHZ A B s a h).trans h2
def Z1 (ls:pN) (x:tU):Prop:= ∀(c:C4) (ends:pW) (a:Nat),ends≠[]->(∀y∈c.2.2.2.1,y.1≠x.1)->c.2.2.2.1.length<1000->
 tS ls (tJ c ends) a= .inr (tJ (c.1,(c.2.1,(c.2.2.1,(c.2.2.2.1++[x],())))) (ends++[((a+ls.flatten.length:Nat):Int)]))
def KD (ls:pN) (t:pM) (cm:pN) (fd:List sW):Prop:=tS ls t8 0= .inr (tJ (t,(cm,(fd,([],())))) [((ls.flatten.length:Nat):Int)])
def N4 (ls:pN):Prop:= ∀(c:C4) (ends:pW) (a:Nat),tS ls (tJ c ends) a= .inr (tJ c ends)
def aQQ {c:C4}(ht:xP c.1=true) (hc:x8 c.2.1=true) (hf:wA c.2.2.1=true):KD (GE c) c.1 c.2.1 c.2.2.1:=by
 obtain⟨c1,c2⟩:=I8 hc;obtain⟨f1,f2,f3⟩:=I9 hf;unfold KD;have e0:tS (GE c) t8 0=tS (c.2.1.map wV++(c.2.2.1.map zT++[GA])) (xS t8 (c.1,t8.c.2) c.1) (0+((K8++qt c.1)++[10]).length):=SZ fun n=>by
  rw[aQu n (aHD ht),rJ,aTs (by simp [t8,tJ]),aTr ht]
 obtain⟨la,na,e1⟩:=a8X c.2.1 (xS t8 (c.1,t8.c.2) c.1) (0+((K8++qt c.1)++[10]).length) rfl (by show 0+_<=_;omega) c2;obtain⟨la',na',e2⟩:=a8Y c.2.2.1 {(xS t8 (c.1,t8.c.2) c.1) with cm:=[]++c.2.1,last:=la,name:=na} (0+((K8++qt c.1)++[10]).length+(c.2.1.map wV).flatten.length) rfl (by show 0+_<=_;omega) (fun x hx=>⟨(f2 x hx).1,(f2 x hx).2.2⟩) (by simpa[xS] using f3)
 rw[e0];refine AA e1 (AA e2 ((aIf rfl).trans ?_));have hlen:(GE c).flatten.length=0+((K8++qt c.1)++[10]).length+(c.2.1.map wV).flatten.length+(c.2.2.1.map zT).flatten.length+4:=by
  unfold GE;simp only[aUd,List.flatten_append,aTt,List.flatten_nil,aTI,aTx];omega
 rw[hlen];simp [xS,t8,tJ]
def aQR {x:tU}(h:zQ x=true):Z1 (BP x) x:=by
 intro c ends a he hno hlt;have p:=a8U h;obtain⟨c1,c2⟩:=I8 p.cm;obtain⟨f1,f2,f3⟩:=I9 p.fd;have hany: ¬(c.2.2.2.1.any fun y=>decide (y.1=x.1))=true:=fun h=>by
  obtain⟨y,hy,h2⟩:=List.any_eq_true.1 h;exact hno y hy (aT6 h2)
 have e0:tS (BP x) (tJ c ends) a=tS (x.2.2.2.1.map wV++(xC zS x.2.1++(xC A9 x.2.2.1++(DY x.2.2.2.2.2.1++(F7 x.2.2.2.2.1++(x.2.2.2.2.2.2.1.map zT++[GA])))))) (xS (tJ c ends) c x.1) (a+1+((DX++qt x.1)++[10]).length):=by
  refine(SZ (u:=[]) (s':=tJ c ends) fun n=>YY n rfl).trans ?_;exact SZ fun n=>by
   rw[aQt n p.idt,rJ,aTs (by simp [tJ,he]),aTs (by rintro(h|h);exact p.id0 h;have:=p.idl;omega),aTs (show¬((tJ c ends).c.2.2.2.1.any fun y=>decide (y.1=x.1))=true from hany),aTs (show¬1000<=(tJ c ends).c.2.2.2.1.length from by show¬1000<=c.2.2.2.1.length;omega)]
   rfl
 rw[e0];obtain⟨l1,n1,e1⟩:=a8X x.2.2.2.1 (xS (tJ c ends) c x.1) (a+1+((DX++qt x.1)++[10]).length) rfl (by show 0+_<=_;omega) c2;refine AA e1 ?_;obtain⟨b2,l2,n2,e2⟩:=aQL (x:=x.2.1) (s:={xS (tJ c ends) c x.1 with cm:=[]++x.2.2.2.1,last:=l1,name:=n1}) (a:=a+1+((DX++qt x.1)++[10]).length+(x.2.2.2.1.map wV).flatten.length) rfl he rfl rfl p.sc
 refine AA e2 ?_;obtain⟨b3,l3,n3,e3⟩:=aQM (x:=x.2.2.1) (s:={xS (tJ c ends) c x.1 with cm:=[]++x.2.2.2.1,sc:=x.2.1,bs:=b2,last:=l2,name:=n2}) (a:=a+1+((DX++qt x.1)++[10]).length+(x.2.2.2.1.map wV).flatten.length+(xC zS x.2.1).flatten.length) rfl he rfl rfl p.tg
 refine AA e3 ?_;obtain⟨b4,l4,n4,e4⟩:=aQN (v:=x.2.2.2.2.2.1) (s:={xS (tJ c ends) c x.1 with cm:=[]++x.2.2.2.1,sc:=x.2.1,bs:=b2,tg:=x.2.2.1,bt:=b3,last:=l3,name:=n3}) (a:=a+1+((DX++qt x.1)++[10]).length+(x.2.2.2.1.map wV).flatten.length+(xC zS x.2.1).flatten.length+(xC A9 x.2.2.1).flatten.length) rfl he rfl rfl p.sv0 p.sv4
 refine AA e4 ?_;obtain⟨b5,l5,n5,e5⟩:=aQO (l:=x.2.2.2.2.1) (s:={xS (tJ c ends) c x.1 with cm:=[]++x.2.2.2.1,sc:=x.2.1,bs:=b2,tg:=x.2.2.1,bt:=b3,sv:=x.2.2.2.2.2.1,bh:=b4,last:=l4,name:=n4}) (a:=a+1+((DX++qt x.1)++[10]).length+(x.2.2.2.1.map wV).flatten.length+(xC zS x.2.1).flatten.length+(xC A9 x.2.2.1).flatten.length+(DY x.2.2.2.2.2.1).flatten.length) rfl he rfl rfl p.fg
 refine AA e5 ?_;obtain⟨l6,n6,e6⟩:=a8Y x.2.2.2.2.2.2.1 {xS (tJ c ends) c x.1 with cm:=[]++x.2.2.2.1,sc:=x.2.1,bs:=b2,tg:=x.2.2.1,bt:=b3,sv:=x.2.2.2.2.2.1,bh:=b4,fg:=x.2.2.2.2.1,bf:=b5,last:=l5,name:=n5} (a+1+((DX++qt x.1)++[10]).length+(x.2.2.2.1.map wV).flatten.length+(xC zS x.2.1).flatten.length+(xC A9 x.2.2.1).flatten.length+(DY x.2.2.2.2.2.1).flatten.length+(F7 x.2.2.2.2.1).flatten.length) rfl (by show 0+_<=_;omega) (fun x hx=>⟨(f2 x hx).1,(f2 x hx).2.2⟩) (by simpa[xS] using f3)
 refine AA e6 ((aQP rfl he).trans ?_);have hlen:(BP x).flatten.length=1+((DX++qt x.1)++[10]).length+(x.2.2.2.1.map wV).flatten.length+(xC zS x.2.1).flatten.length+(xC A9 x.2.2.1).flatten.length+(DY x.2.2.2.2.2.1).flatten.length+(F7 x.2.2.2.2.1).flatten.length+(x.2.2.2.2.2.2.1.map zT).flatten.length+4:=by
  unfold BP;simp only[aUd,List.flatten_append,aTt,List.flatten_nil,aTI,aTx];omega
 have hn:((a+(BP x).flatten.length:Nat):Int)=((a+1+((DX++qt x.1)++[10]).length+(x.2.2.2.1.map wV).flatten.length+(xC zS x.2.1).flatten.length+(xC A9 x.2.2.1).flatten.length+(DY x.2.2.2.2.2.1).flatten.length+(F7 x.2.2.2.2.1).flatten.length+(x.2.2.2.2.2.2.1.map zT).flatten.length+4:Nat):Int):=by rw[hlen];congr 1;omega
 rw[hn];rfl
def aQS (x:tU):BP x≠[]:=by unfold BP;simp
def a8Z:N4 []:=fun _ _ _=>rfl
abbrev nI (l:q8):pW:=l.map fun n:Nat=>(n:Int)
def DZ:List pN->List tU->Prop
 |[],[]=>True
 |g::G,x::es=>(g≠[]/\Z1 g x)/\DZ G es
 |_,_=>False
def aIg: ∀{G:List pN}{es:List tU},DZ G es->G.length=es.length
 |[],[],_=>rfl
 |_::G,_::es,h=>by rw[aTx,aTx,aIg h.2]
 |[],_::_,h=>h.elim
 |_::_,[],h=>h.elim
def aIh: ∀{G:List pN}{es:List tU}{g:pN}{x:tU},DZ G es->g≠[]->Z1 g x->DZ (G++[g]) (es++[x])
 |[],[],_,_,_,h1,h2=>⟨⟨h1,h2⟩,trivial⟩
 |_::G,_::es,_,_,h,h1,h2=>⟨h.1,aIh h.2 h1 h2⟩
 |[],_::_,_,_,h,_,_=>h.elim
 |_::_,[],_,_,h,_,_=>h.elim
def aIi {f:tU->pN}: ∀{es:List tU},(∀x∈es,f x≠[]/\Z1 (f x) x)->DZ (es.map f) es
 |[],_=>trivial
 |x::es,h=>⟨h x aTJ,aIi fun y hy=>h y (aTB _ hy)⟩
def aIj: ∀{G:List pN}{es:List tU}{c:C4}{ends:pW}{a:Nat},DZ G es->ends≠[]->(c.2.2.2.1++es).Pairwise (fun a b=>a.1≠b.1)->(c.2.2.2.1++es).length<=1000->
  tS G.flatten (tJ c ends) a= .inr (tJ (c.1,(c.2.1,(c.2.2.1,(c.2.2.2.1++es,())))) (ends++nI (xB a (G.map List.flatten))))
 |[],[],c,ends,a,_,_,_,_=>by
  show Sum.inr (tJ c ends)=_;rw[List.append_nil,List.map_nil];show _=Sum.inr (tJ _ (ends++[]));rw[List.append_nil]
 |g::G,x::es,c,ends,a,h,he,hp,hl=>by
  have hl':c.2.2.2.1.length+(es.length+1)<=1000:=by simpa using hl
  have h1:=h.1.2 c ends a he (fun y hy=>(aVk.1 hp).2.2 y hy x aTJ) pQ;rw[aUd];refine AA h1 ?_;rw[aIj h.2 pS (by simpa using hp) pT];simp [xB,nI]
 |[],_::_,_,_,_,h,_,_,_=>h.elim
 |_::_,[],_,_,_,h,_,_,_=>h.elim
abbrev CC (H:pN) (G:List pN):pW:=nI (H.flatten.length::xB H.flatten.length (G.map List.flatten))
def aQT {H T:pN}{G:List pN}{t:pM}{cm:pN}{fd:List sW}{es:List tU}(hH:KD H t cm fd) (hG:DZ G es) (hT:N4 T) (hp:es.Pairwise (fun a b=>a.1≠b.1)) (hl:es.length<=1000):
  tS (H++(G.flatten++T)) t8 0= .inr (tJ (t,(cm,(fd,(es,())))) (CC H G)):=by
 refine AA hH (AA (aIj hG pS (by simpa using hp) (by simpa using hl)) ((hT _ _ _).trans ?_));simp [CC,nI]
def aQU {H T:pN}{G:List pN}{t:pM}{cm:pN}{fd:List sW}{es:List tU}(hH:KD H t cm fd) (hG:DZ G es) (hT:N4 T) (hp:es.Pairwise (fun a b=>a.1≠b.1)) (hl:es.length<=1000)
  (hok:ST (H++(G.flatten++T))):zR (H++(G.flatten++T)).flatten= .inr (tJ (t,(cm,(fd,(es,())))) (CC H G)):=by
 rw[aHY,aHV _ hok,aQT hH hG hT hp hl];exact aTs (by simp [tJ])
def uF (s:St) (c:C4) (e:pW):St:={s with c:=c,ends:=e}
def aQV (s:St) (c:C4) (e:pW) (z:pM):wJ (uF s c e) z=uF (wJ s z) c e:=by
 show wJ {s with c:=c,ends:=e} z=_
 unfold wJ;dsimp only
 repeat' (first|rfl|split)
def aQW {s:St}{k:vS}(c:C4) {e:pW}(n m:Int) (hs:s.ends≠[]) (he:e≠[]) (hk: ∀hd t,k≠.beg hd t) (hf:k≠.fin):rJ (uF s c e) m k=((rJ s n k).1,uF (rJ s n k).2 c e):=by
 cases k with
 |bad=>rfl
 |fin=>exact absurd rfl hf
 |beg hd t=>exact absurd rfl (hk hd t)
 |cont t=>
  have E1:rJ (uF s c e) m (.cont t)=if s.op=false\/s.last=[] then(3,uF s c e) else if sO (A8 s++t)=true then(0,wJ (uF s c e) (A8 s++t)) else(3,uF s c e):=rfl;have E2:rJ s n (.cont t)=if s.op=false\/s.last=[] then(3,s) else if sO (A8 s++t)=true then(0,wJ s (A8 s++t)) else(3,s):=rfl;rw[E1,E2,aQV];split
  .rfl
  .split<;>rfl
 |com t=>
  have E1:rJ (uF s c e) m (.com t)=if s.op=false then(3,uF s c e) else if 20<=s.cm.length then(6,uF s c e) else(0,uF {s with cm:=s.cm++[t],last:=vN,name:=[]} c e):=rfl
  have E2:rJ s n (.com t)=if s.op=false then(3,s) else if 20<=s.cm.length then(6,s) else(0,{s with cm:=s.cm++[t],last:=vN,name:=[]}):=rfl
  rw[E1,E2];split
  .rfl
  .split<;>rfl
 |fld a v=>
  have E1:rJ (uF s c e) m (.fld a v)=if s.op=false then(3,uF s c e) else if (s.fd.any fun y=>decide (y.1=a))=true then(9,uF s c e) else if 20<=s.fd.length then(6,uF s c e) else(0,uF {s with fd:=xQ s.fd a v,last:=wB,name:=a} c e):=rfl
  have E2:rJ s n (.fld a v)=if s.op=false then(3,s) else if (s.fd.any fun y=>decide (y.1=a))=true then(9,s) else if 20<=s.fd.length then(6,s) else(0,{s with fd:=xQ s.fd a v,last:=wB,name:=a}):=rfl
  rw[E1,E2];split
  .rfl
  .split
   .rfl
   .split<;>rfl
 |src t=>
  have E1:rJ (uF s c e) m (.src t)=if s.op=false\/e=[] then(3,uF s c e) else if s.bs=true then(9,uF s c e) else(0,uF {s with sc:=t,bs:=true,last:=u1,name:=[]} c e):=rfl
  have E2:rJ s n (.src t)=if s.op=false\/s.ends=[] then(3,s) else if s.bs=true then(9,s) else(0,{s with sc:=t,bs:=true,last:=u1,name:=[]}):=rfl
  rw[E1,E2];by_cases ho:s.op=false
  .rw[aTr (.inl ho),aTr (.inl ho)]
  .rw[aTs (show¬(s.op=false\/e=[]) from fun h=>h.elim ho he),aTs (show¬(s.op=false\/s.ends=[]) from fun h=>h.elim ho hs)];split<;>rfl
 |tgt t=>
  have E1:rJ (uF s c e) m (.tgt t)=if s.op=false\/e=[] then(3,uF s c e) else if s.bt=true then(9,uF s c e) else(0,uF {s with tg:=t,bt:=true,last:=u6,name:=[]} c e):=rfl
  have E2:rJ s n (.tgt t)=if s.op=false\/s.ends=[] then(3,s) else if s.bt=true then(9,s) else(0,{s with tg:=t,bt:=true,last:=u6,name:=[]}):=rfl
  rw[E1,E2];by_cases ho:s.op=false
  .rw[aTr (.inl ho),aTr (.inl ho)]
  .rw[aTs (show¬(s.op=false\/e=[]) from fun h=>h.elim ho he),aTs (show¬(s.op=false\/s.ends=[]) from fun h=>h.elim ho hs)];split<;>rfl
 |sta v=>
  have E1:rJ (uF s c e) m (.sta v)=if s.op=false\/e=[] then(3,uF s c e) else if s.bh=true then(9,uF s c e) else(0,uF {s with sv:=v,bh:=true,last:=[],name:=[]} c e):=rfl
  have E2:rJ s n (.sta v)=if s.op=false\/s.ends=[] then(3,s) else if s.bh=true then(9,s) else(0,{s with sv:=v,bh:=true,last:=[],name:=[]}):=rfl
  rw[E1,E2];by_cases ho:s.op=false
  .rw[aTr (.inl ho),aTr (.inl ho)]
  .rw[aTs (show¬(s.op=false\/e=[]) from fun h=>h.elim ho he),aTs (show¬(s.op=false\/s.ends=[]) from fun h=>h.elim ho hs)];split<;>rfl
 |flg l=>
  have E1:rJ (uF s c e) m (.flg l)=if s.op=false\/e=[] then(3,uF s c e) else if s.bf=true\/BL l=true then(9,uF s c e) else if 20<l.length then(6,uF s c e) else(0,uF {s with fg:=tN l,bf:=true,last:=[],name:=[]} c e):=rfl
  have E2:rJ s n (.flg l)=if s.op=false\/s.ends=[] then(3,s) else if s.bf=true\/BL l=true then(9,s) else if 20<l.length then(6,s) else(0,{s with fg:=tN l,bf:=true,last:=[],name:=[]}):=rfl
  rw[E1,E2];by_cases ho:s.op=false
  .rw[aTr (.inl ho),aTr (.inl ho)]
  rw[aTs (show¬(s.op=false\/e=[]) from fun h=>h.elim ho he),aTs (show¬(s.op=false\/s.ends=[]) from fun h=>h.elim ho hs)];split
  .rfl
  split<;>rfl
def aIk {s s':St}{k:vS}{n:Int}(ho:s.op=true) (hf:k≠.fin) (h:rJ s n k=(0,s')):s'.op=true/\s'.c=s.c/\s'.ends=s.ends/\s'.id=s.id/\∀hd t,k≠.beg hd t:=by
 have hb: ∀hd t,k≠.beg hd t:=by
  rintro hd t rfl;cases hd<;>simp [rJ,ho] at h
 have h1:(rJ s n k).1=0:=by rw[h]
 have h2:(rJ s n k).2=s':=by rw[h]
 refine⟨?_,?_,?_,?_,hb⟩<;>rw[<-h2]<;>cases k<;>first
  |rfl
  |exact absurd rfl hf
  |exact absurd rfl (hb _ _)
  |(rw[rJ];repeat' (first|rfl|exact ho|split|(unfold wJ;dsimp only)))
def aQX (Q:pN) (s:St):Prop:= ∀(c:C4) (ends:pW) (a:Nat),ends≠[]->(∀y∈c.2.2.2.1,y.1≠s.id)->c.2.2.2.1.length<1000->tS Q (tJ c ends) a= .inr (uF s c ends)
def a80 (P:pN) (s:St):Prop:=
 (s=t8)\/(s.op=true/\s.ends=[])\/
 (∃H G T c,P=H++(G.flatten++T)/\KD H c.1 c.2.1 c.2.2.1/\DZ G c.2.2.2.1/\N4 T/\s=tJ c (CC H G))\/
 (∃H G Q,P=H++(G.flatten++Q)/\KD H s.c.1 s.c.2.1 s.c.2.2.1/\DZ G s.c.2.2.2.1/\(Q≠[]/\aQX Q s)/\s.op=true/\s.ends=CC H G)
def aQY {s s':St}{u:pM}{n:Int}(h:tB s u n=(0,s')):(AS u=true/\s'=s)\/∃k,rJ s n k=(0,s')/\∀(t:St) (m:Int),tB t u m=rJ t m k:=by
 by_cases hf:AS u=true
 .left;rw[YY n hf] at h;exact⟨hf,(aTR Prod.snd h).symm⟩
 right;have key: ∀(t:St) (m:Int),tB t u m=match G2 u with|none=>(3,t) |some l=>rJ t m (z7 l):=fun t m=>by
  unfold tB;exact aTs hf
 cases hw:G2 u with
 |none=>
  have:=(key s n).symm.trans h;rw[hw] at this;cases this
 |some l=>
  refine⟨z7 l,?_,fun t m=>?_⟩
  .have:=(key s n).symm.trans h;rw[hw] at this;exact this
  have:=key t m;rw[hw] at this;exact this
def Z2 (A B:pN) (l:pM) (G:List pN):(A++(G.flatten++B))++[l]=A++(G.flatten++(B++[l])):=by simp
def aQZ {T:pN}{l:pM}(hT:N4 T) (hl:AS (tM l)=true):N4 (T++[l]):=fun c ends a=>AA (hT c ends a) (KB (YY _ hl))
def aIl: ∀(ps:pN) (n:Nat) (p:pM),xB n (ps++[p])=xB n ps++[n+ps.flatten.length+p.length]
 |[],n,p=>by simp [xB]
 |q::ps,n,p=>by
  have:=aIl ps (n+q.length) p;simp only[List.cons_append,xB,aUd,aTt];rw[this];simp only[aT3]
def a81 (G:List pN):(G.map List.flatten).flatten=G.flatten.flatten:=by
 induction G with
 |nil=>rfl
 |cons g G ih=>rw[aUt,aUd,aUd,List.flatten_append,ih]
def aQ0 (H:pN) (G:List pN) (q:pN):CC H (G++[q])=CC H G++[(((H++(G.flatten++q)).flatten.length:Nat):Int)]:=by
 unfold CC;rw[List.map_append,List.map_singleton,aIl,a81];simp [nI,aT3]
def aQ1 {P:pN}{l:pM}{s s':St}(hr:tS P t8 0= .inr s) (hok:wT s) (h:a80 P s) (hs:tB s (tM l) ((P.flatten.length+l.length:Nat):Int)=(0,s')):a80 (P++[l]) s':=by
 have hrun:tS (P++[l]) t8 0= .inr s':=AA hr (KB (by rw[aTW];exact hs));rcases aQY hs with⟨hf,rfl⟩ |⟨k,hd,hk⟩
 .rcases h with h|h|⟨H,G,T,c,e,h1,h2,h3,h4⟩ |⟨H,G,Q,e,h1,h2,⟨h3,h3'⟩,h4,h5⟩
  .exact .inl h
  .exact .inr (.inl h)
  .exact .inr (.inr (.inl ⟨H,G,T++[l],c,by rw[e,Z2],h1,h2,aQZ h3 hf,h4⟩))
  refine .inr (.inr (.inr ⟨H,G,Q++[l],by rw[e,Z2],h1,h2,⟨by simp,fun c ends a g1 g2 g3=>?_⟩,h4,h5⟩));exact AA (h3' c ends a g1 g2 g3) (KB (YY _ hf))
 rcases h with rfl|⟨h1,h2⟩ |⟨H,G,T,c,e,h1,h2,h3,rfl⟩ |⟨H,G,Q,e,h1,h2,⟨h3,h3'⟩,h4,h5⟩
 .refine .inr (.inl ?_);cases k with
  |beg hh t=>
   cases hh with
   |true=>
    rw[rJ] at hd;rw[aTs (by simp [t8,tJ])] at hd;split at hd
    .have e2:s'=xS t8 (t,t8.c.2) t:=(aTR Prod.snd hd).symm;rw[e2];exact⟨rfl,rfl⟩
    .cases hd
   |false=>simp [rJ,t8,tJ] at hd
  |_=>simp [rJ,t8,tJ] at hd
 .by_cases hk2:k= .fin
  .subst hk2;refine .inr (.inr (.inl ⟨P++[l],[],[],s'.c,by simp,?_,?_,a8Z,?_⟩))
   all_goals
    have hd2:=hd;rw[rJ] at hd2;rw[aTs (by rw[h1];simp),aTr h2,h2,List.nil_append] at hd2;have hs':=(aTR Prod.snd hd2).symm;have hes:=hok.e0 h2;dsimp only at hs'
   .unfold KD;rw[hrun,hs'];have:s.c.2.2.2=([],()):=by rw[<-hes]
    show Sum.inr (tJ (s.c.1,(s.cm,(s.fd,s.c.2.2.2))) _)=_;rw[this];simp [tJ]
   .rw[hs'];show DZ [] s.c.2.2.2.1;rw[hes]
    trivial
   rw[hs'];simp [tJ,CC,nI,xB]
  obtain⟨g1,g2,g3,g4,g5⟩:=aIk h1 hk2 hd;exact .inr (.inl ⟨g1,g3.trans h2⟩)
 .cases k with
  |beg hh t=>
   cases hh with
   |true=>simp [rJ,tJ,CC] at hd
   |false=>
    rw[rJ] at hd;split at hd
    .cases hd
    .split at hd
     .cases hd
     .rename_i ht;split at hd
      .cases hd
      .split at hd
       .cases hd
       .have e2:=(aTR Prod.snd hd).symm;dsimp only at e2;refine .inr (.inr (.inr ⟨H,G,T++[l],by rw[e,Z2],?_,?_,⟨by simp,fun c' ends a b1 b2 b3=>?_⟩,?_,?_⟩))
        .rw[e2];exact h1
        .rw[e2];exact h2
        .refine AA (h3 c' ends a) (KB ?_);rw[hk,e2];rw[e2] at b2;rw[rJ];have hany: ¬(c'.2.2.2.1.any fun y=>decide (y.1=t))=true:=fun h=>by
          obtain⟨y,hy,q⟩:=List.any_eq_true.1 h;exact b2 y hy (aT6 q)
         rw[aTs (by simp [tJ,b1]),aTs ht,aTs (show¬((tJ c' ends).c.2.2.2.1.any fun y=>decide (y.1=t))=true from hany),aTs (show¬1000<=(tJ c' ends).c.2.2.2.1.length from by show¬1000<=c'.2.2.2.1.length;omega)];rfl
        .rw[e2];rfl
        .rw[e2];rfl
  |_=>simp [rJ,tJ] at hd
 have hne:s.ends≠[]:=by rw[h5];simp [CC]
 by_cases hk2:k= .fin
 .subst hk2;have hd2:=hd;rw[rJ] at hd2;rw[aTs (by rw[h4];simp),aTs hne] at hd2;have hs':=(aTR Prod.snd hd2).symm;dsimp only at hs';refine .inr (.inr (.inl ⟨H,G++[Q++[l]],[],s'.c,?_,?_,?_,a8Z,?_⟩))
  .rw[e];simp
  .rw[hs'];exact h1
  .rw[hs'];refine aIh h2 pS fun c ends a b1 b2 b3=>?_;refine AA (h3' c ends a b1 b2 b3) (KB ?_);rw[hk];rw[rJ];rw[aTs (show¬(uF s c ends).op=false from by show¬s.op=false;rw[h4];simp),aTs (show¬(uF s c ends).ends=[] from b1)];have:((a+Q.flatten.length+l.length:Nat):Int)=((a+(Q++[l]).flatten.length:Nat):Int):=by simp [aT3]
   rw[this];rfl
  rw[hs',aQ0,h5];have:(P.flatten.length+l.length:Nat)=(H++(G.flatten++(Q++[l]))).flatten.length:=by rw[e];simp [aT3]
  rw[this];rfl
 obtain⟨g1,g2,g3,g4,g5⟩:=aIk h4 hk2 hd;refine .inr (.inr (.inr ⟨H,G,Q++[l],by rw[e,Z2],by rw[g2];exact h1,by rw[g2];exact h2,⟨by simp,fun c ends a b1 b2 b3=>?_⟩,g1,g3.trans h5⟩));rw[g4] at b2;refine AA (h3' c ends a b1 b2 b3) (KB ?_);rw[hk,aQW c ((P.flatten.length+l.length:Nat):Int) _ hne b1 g5 hk2,hd]
def aIm: ∀(ls:pN) (s:St) (a:Nat) {s':St},wT s->tS ls s a= .inr s'->wT s'
 |[],s,a,s',h,e=>by cases e;exact h
 |l::ls,s,a,s',h,e=>by
  rw[KA] at e;by_cases h0:(tB s (tM l) ((a+l.length:Nat):Int)).1=0
  .rw[aTr h0] at e;exact aIm ls _ _ (YN h _ _ h0) e
  rw[aTs h0] at e;cases e
def aIn: ∀(n:Nat) (P:pN),P.length=n->∀s,tS P t8 0= .inr s->a80 P s
 |0,P,hn,s,h=>by
  have:P=[]:=aUi.1 hn;subst this;cases h;exact .inl rfl
 |n+1,P,hn,s,h=>by
  have hne:P≠[]:=fun e=>by rw[e] at hn;cases hn
  have eP:=List.dropLast_concat_getLast hne;rw[<-eP] at h|-;obtain⟨m,h1,h2⟩:=aH0 _ _ _ _ h;have hP:=aIn n P.dropLast (by rw[List.length_dropLast];omega) m h1;have h3:=aQm h2;rw[aTW] at h3;exact aQ1 h1 (aIm _ _ _ a8s h1) hP h3
def aQ2 {s:pM}{st:St}(h:zR s= .inr st): ∃H G T,DE s=H++(G.flatten++T)/\KD H st.c.1 st.c.2.1 st.c.2.2.1/\DZ G st.c.2.2.2.1/\N4 T/\st.ends=CC H G:=by
 rw[aHY] at h;cases hr:tS (DE s) t8 0 with
 |inl q=>rw[hr] at h;cases h
 |inr m=>
  rw[hr] at h;dsimp only at h;split at h
  .cases h
  rename_i hno;have:=Sum.inr.inj h;subst this;rcases aIn _ (DE s) rfl m hr with e|⟨e1,e2⟩ |⟨H,G,T,c,e,h1,h2,h3,h4⟩ |⟨H,G,Q,e,h1,h2,h3,h4,h5⟩
  .exact absurd (.inr (by rw[e];rfl)) hno
  .exact absurd (.inr e2) hno
  .subst h4;exact⟨H,G,T,e,h1,h2,h3,rfl⟩
  exact absurd (.inl h4) hno
def PE (s:pM):(qt s).length≤6*s.length+2:=by
  have:=a8J (n:=2) rfl s;simp only[qt,aTt,aTx,aTI];omega
def aIo {x:pM}(h:uU x=true):x.length≤40:=by
  cases x with
  |nil=>simp
  | cons b t=>
    unfold uU at h;simp only[aTL,aTV,aT5] at h;rw[aTx];omega
def aIp {l:pN}(h:x8 l=true):(GB l).length≤480260:=by
  obtain⟨h1,h2⟩:=I8 h
  have:=K6 (l:=l) (h:=wV) (B:=24013) fun x hx=>by
    have:=PE x;have:=BK (h2 x hx);simp only[wV,aTt,aTx,aTI];omega
  unfold GB;have:=aUA 24013 h1;omega
def aIq {l:List sW}(h:wA l=true):(IA l).length≤485080:=by
  obtain⟨h1,h2,_⟩:=I9 h
  have:=K6 (l:=l) (h:=zT) (B:=24254) fun x hx=>by
    have:=PE x.1;have:=PE x.2.1;have:=aIo (h2 x hx).1;have:=BK (h2 x hx).2.2;simp only[zT,aTt,aTx,aTI];omega
  unfold IA;have:=aUA 24254 h1;omega
def aQ3 {l:pN}(h:DT l=true):(IB l).length≤1000:=by
  obtain⟨h1,h2,_⟩:=YH h;unfold IB;split
  .simp
  rename_i hne
  cases l with
  |nil=>exact absurd rfl hne
  | cons x r=>
    have e:=aTR List.length (aIe (x:=x) (r:=r))
    have:=K6 (l:=x::r) (h:=fun y=>[32]++y) (B:=41) fun y hy=>by
      have:=aIo (h2 y hy);simp only[aTt,aTx,aTI];omega
    have h3:=aUA 41 h1;unfold DF at e;simp only[aTt,aTx,aTI] at e h3 this|-;omega
def aIr {p s:pM}(hp:p.length≤10) (h:sO s=true):(GC p s).length≤24013:=by
  have:=PE s;have:=BK h;unfold GC;split
  .simp
  simp only[aTt,aTx,aTI];omega
def aQ4 {x:tU}(h:zQ x=true):(yH x).length≤1016000:=by
  have p:=a8U h;have h1:=aIp p.cm;have h2:=aIq p.fd;have h3:=aQ3 p.fg;have h4:=aIr (p:=zS) pR p.sc;have h5:=aIr (p:=A9) pR p.tg;have h6:=aHM p.sv0 p.sv4;have h7:=PE x.1;have h8:=p.idl;unfold yH iE iD iC iB iA;simp only[aTt,aTx,aTI];omega
def aQ5 {c:C4}(h:yS c=true):(CB c).length≤1000000:=by
  obtain⟨k1,k2,k3,_⟩:=YI h;have h1:=aIp k2;have h2:=aIq k3;have h3:=PE c.1;have h4:=BK (aHD k1);unfold CB;simp only[aTt,aTx,aTI];omega
def aQ6 {c:C4}(h:yS c=true):(GD c).length≤1100000000:=by
  obtain⟨k1,k2,k3,k4,k5,_⟩:=YI h;have h1:=aQ5 h;have:=K6 (l:=c.2.2.2.1) (h:=yH) (B:=1016000) fun x hx=>aQ4 (k5 x hx);unfold GD G9;rw[←List.flatMap_def];simp only[aTt,aTI];have:=aUA 1016000 k4;omega
def a82 (l:List tU):(l.map BP).map List.flatten=l.map yH:=by
  rw[List.map_map];exact List.map_congr_left fun x _=>aQF x
def aQ7 (c:C4):GD c=(GE c++((c.2.2.2.1.map BP).flatten++[])).flatten:=by
  rw[List.flatten_append,a8V,List.flatten_append,←a81,a82];rfl
def aQ8 {l:List tU}(h: ∀x∈l,zQ x=true):BO (l.map BP).flatten:=fun q hq=>by
  obtain⟨g,hg,h1⟩:=List.mem_flatten.1 hq;obtain⟨x,hx,rfl⟩:=List.mem_map.1 hg;exact aQJ (h x hx) q h1
def aQ9 {c:C4}(h:yS c=true):zR (GD c)= .inr (tJ c (CC (GE c) (c.2.2.2.1.map BP))):=by
  obtain⟨k1,k2,k3,k4,k5,k6⟩:=YI h;rw[aQ7];exact aQU (aQQ k1 k2 k3) (aIi fun x hx=>⟨aQS x,aQR (k5 x hx)⟩) a8Z k6 k4 (a8S (aQK c) (a8S (aQ8 k5) trivial))
def aIs {s:pM}(hs:s.length<=1100000000) {st:St}(hr:zR s= .inr st) {H T:pN}{G:List pN}(hl:s=H.flatten++((G.map List.flatten).flatten++T.flatten)) (he:st.ends=CC H G):
  BH s=some (H.flatten,G.map List.flatten,T.flatten,0):=by
 have h:=a8C hs;rw[hr] at h;obtain⟨P,h1,h2,h3,h4⟩:=h;obtain⟨k1,k2,k3,⟨l,g1,g2,g3⟩,k5⟩:=aHa hr;have hl2:l=H.flatten.length::xB H.flatten.length (G.map List.flatten):=by
  have e:nI l=nI (H.flatten.length::xB H.flatten.length (G.map List.flatten)):=g1.symm.trans he;have:=aTR (List.map Int.toNat) e;rwa [aHb,aHb] at this
 have hlen:l.length<=5000:=by
  have:=aGC k1;rw[g1,aUl] at this;omega
 have hne:l≠[]:=fun e=>k3 (by rw[g1,e];rfl);rw[aPH pQ hne g2 g3 hlen h2 (show P.ends=_ from h1.ends.trans g1),hl2,aP6 hl,aP7 hl,aP8 hl]
def aRa {s:pM}(hs:s.length<=1100000000) {q:Nat×Int}(hr:zR s= .inl q):BH s=some ([],[],[],q.2)/\q.2≠0:=by
 have h:=a8C hs;rw[hr] at h;obtain⟨h1,h2,h3⟩:=h;refine⟨?_,h3⟩;unfold BH;rw[h1,h2,aTs pS,aTu,aTr (by simpa using h3)]
def aRb {s:pM}(hs:s.length<=1100000000) {q:Nat×Int}(hr:zR s= .inl q):BG s=some ([],[],[],[],(q.1:Int),q.2):=by
 rw[aG8 hs,hr];rfl
def aRc {s:pM}(hs:s.length<=1100000000) {st:St}(hr:zR s= .inr st):BG s=some (st.c.1,st.c.2.1,st.c.2.2.1,st.c.2.2.2.1,0,0):=by
 rw[aG8 hs,hr];rfl
def aRd {s:pM}{H T:pN}{G:List pN}(h:DE s=H++(G.flatten++T)):s=H.flatten++((G.map List.flatten).flatten++T.flatten):=by
 conv=>lhs;rw[<-aQk s,h]
 rw[List.flatten_append,List.flatten_append,a81]
def aRe {c:C4}(h:yS c=true):BH (GD c)=some (CB c,c.2.2.2.1.map yH,[],0):=by
 have hb:=aQ9 h;have:=aIs (aQ6 h) hb (H:=GE c) (G:=c.2.2.2.1.map BP) (T:=[]) (by rw[a8V,a82];rfl) rfl;rw[this,a8V,a82];rfl
def aRf (s:pM):MT s=some true:=by
 unfold MT;rw[aPI,aTu,aTs pR];by_cases h:decide ((4000:Int)<(s.length:Int))=true
 .rw[aTr h]
 rw[aTs h];have hs:s.length<=4000:=by simp at h;omega
 have hsm:s.length<=1100000000:=by omega
 cases hr:zR s with
 |inl q=>
  obtain⟨h1,h2⟩:=aRa hsm hr;rw[h1,aTu,aRb hsm hr,aTu];dsimp only;refine(aTr (show ((!decide (q.2=0))||(!decide (q.2=0)))=true by simp [h2])).trans ?_
  simp
 |inr st=>
  obtain⟨H,G,T,e1,e2,e3,e4,e5⟩:=aQ2 hr;have hp:=aRd e1;have hok:=(aHa hr).2.2.2.2;have hw:=aP3 hok;have hlG:=aIg e3;rw[aIs hsm hr hp e5,aTu,aRc hsm hr,aTu];dsimp only;have hc:(st.c.1,(st.c.2.1,(st.c.2.2.1,(st.c.2.2.2.1,()))))=st.c:=rfl;refine(aTs (show¬((!decide ((0:Int)=0))||(!decide ((0:Int)=0)))=true by decide)).trans ?_
  rw[hc,aQg hw,aTr hok,aTu];dsimp only;rw[aRe hok,aTu,aHS hw,aTr hok,aTu];have hl:=hw.len;have hbody:G9 H.flatten (G.map List.flatten) T.flatten=s:=hp.symm;rw[a8K (H.flatten,(G.map List.flatten,(T.flatten,()))) (by show (G.map List.flatten).length<=_;rw[aUl];omega) (by show (G9 _ _ _).length<=_;rw[hbody];omega),aTu];dsimp only;rw[hbody];have hd:=aOC (CB st.c,(st.c.2.2.2.1.map yH,(([]:pM),()))) (by show (st.c.2.2.2.1.map yH).length<=5000;rw[aUl];omega);rw[hd,aTr aOx,aUl,hlG];simp [val]
end Go.Proofs.YtcpbaddnmpeipaaGreatDoor
namespace Go.Proofs.YtcpbaddnmpeipaaGreatDoor
open Go.ChangeShapes Go.WideShapes Go.ChangeAt Go.RowKit
section
variable {H:Type}{enc:TypeId×qB->H}{P:Program}
theorem aRg (hl:laidOutB P=true) {W W':q9}(hb:Below W.heap.size W W'):
  ∀{ts:List TypeId}{vs:pX}{ds:List (DataW H)}{ps:List MemPlace},(∀t∈ts,P.readableRec t=true/\t<P.types.size)->
  DataW.TrodAll enc P W 0 (fun _=>true) true ts vs ds ps->(∀x∈ps,x.block<W.heap.size)->
  DataW.TrodAll enc P W' 0 (fun b=>decide (b<W.heap.size)) true ts vs ds ps:=by
 intro ts
 induction ts with
 |nil=>
  intro vs ds ps _ h _;obtain⟨rfl,rfl,rfl⟩:=trodAll_nil h;exact trodAll_mk0
 |cons t ts ih=>
  intro vs ds ps hr h hlt;obtain⟨v,vs',d,ds',p,q,rfl,rfl,rfl,h0,r0⟩:=trodAll_cons h;exact trodAll_cons_mk (Below.trod hl (hr t pS).1 (hr t pS).2 h0 hb (fun x hx=>hlt x (by simp [hx]))) (ih (fun t' ht'=>hr t' (by simp [ht'])) r0 (fun x hx=>hlt x (by simp [hx])))
theorem aRh {f:Func}{s:ChangeSpec}{W W':q9}{args:Array qB}{ds gs:List (DataW H)}{before:List MemPlace}{tb:TypeId}
  (hl:laidOutB P=true) (hr: ∀t∈f.params.toList,P.readableRec t=true/\t<P.types.size)
  (hW:DataW.Whole enc P f.params.toList s.vars false W args.toList ds gs before) (hv:s.vars=[])
  (hfn:s.fn H ds={results:=[.lit (.bool true)],args:=ds}) (hrt:f.resultTypes= #[tb]) (htb:P.underlying tb=some .bool)
  (hb:Below W.heap.size W W'):s.post enc P f false true false false W args (.bool true) W':=by
 have hW':=hW;obtain⟨p,q,hA,hV,rfl,hfz,hnd⟩:=hW;rw[hv] at hV;obtain⟨rfl,rfl⟩:=trodVars_none hV;have hlt: ∀x∈p,x.block<W.heap.size:=fun x hx=>by simpa using hW'.lt x (by simp [hx])
 refine⟨ds,[],p++[],[],p,[],hW',?_,?_,?_,hb.frame _,fun h=>by cases h⟩
 .rw[List.append_nil,hfn,hrt];exact trodAll_mk1 (shut_bool htb true)
 .rw[List.append_nil,hfn];exact aRg hl hb hr hA hlt
 rw[hv,List.append_nil,hfn];rfl
end
section
variable {H:Type}{enc:TypeId×qB->H}
theorem aRi {C:Checked}{f:FuncId}{fn:Func}{s:ChangeSpec}{tb:TypeId}{GF:List (String×DataW Unit)}(own:ownKnob C.prog.godebug=none) {os:Os}(started:os.Started) (F:Stop.Interp)
  (noInit:C.prog.inits.idxOf? f=none) (hfn:C.prog.funcs[f]? =some fn)
  (hl:laidOutB C.prog=true) (hr: ∀t∈fn.params.toList,C.prog.readableRec t=true/\t<C.prog.types.size) (hv:s.vars=[])
  (hrt:fn.resultTypes= #[tb]) (htb:C.prog.underlying tb=some .bool)
  (hspec: ∀(ds:List (DataW H)) (W:q9) (args:Array qB) ps,DataW.TrodAll enc C.prog W 0 (fun _=>true) true fn.params.toList args.toList ds ps->s.fn H ds={results:=[.lit (.bool true)],args:=ds})
  (witness: ∃(w:q9) (tape:Tape) (i:Input),w.os=os/\(w.forCall tape i).Shaped C.prog/\i.vars=[]/\Input.okWide C.prog (w.forCall tape i) .any w.heap.size f i/\
   (OpenSpec.ofChange s).preRow enc C.prog fn [] false GF (w.forCall tape i).memory i.args/\Assume.holds {} C.prog (lone (Frame.enter C.prog f i.args .normal) [] (w.forCall tape i)))
  (contract: ∀(W:q9) (base:Nat) (args:Array qB) (ds:List (DataW H)) (ps:List MemPlace),
   (∀(j:Nat) t v,fn.params[j]? =some t->args[j]? =some v->Value.okWide C.prog W .any base t v)->
   DataW.TrodAll enc C.prog W 0 (fun _=>true) true fn.params.toList args.toList ds ps->
   (∀x∈ps,x.block<W.heap.size)->(DataW.weightsEach C.prog fn.params.toList ds).all (·<=reachBytes)=true->laidMetH C.prog GF W->W.ShapedOpen C.prog->
   Calls C.prog f args W fun e W'=>e= .returned (.bool true)/\Below W.heap.size W W'):
  ReturnsInHanded {} C os f .any ((OpenSpec.ofChange s).preRow enc C.prog fn [] false GF) (s.post enc C.prog fn false true false false):=by
 refine returnsInHanded_of_row (C:=C) (s:=OpenSpec.ofChange s) (F:=F) own started noInit hfn witness ?_;intro W base args ds gs before hval hW _ _ hsz hL hsh _;have hW':=hW;obtain⟨p,q,hA,hV,rfl,hfz,hnd⟩:=hW;have hV':DataW.TrodVars enc C.prog W (fun _=>true) s.vars gs q:=hV;rw[hv] at hV';obtain⟨rfl,rfl⟩:=trodVars_none hV';have hlt: ∀x∈p,x.block<W.heap.size:=fun x hx=>by simpa using hW'.lt x (by simp [hx])
 have hvt:(OpenSpec.ofChange s).bare.plain.varTypes C.prog=[]:=by
  simp [OpenSpec.ofChange,ChangeSpec.plain,hv];rfl
 rw[hvt,List.append_nil,List.append_nil] at hsz;refine(contract W base args ds p hval hA hlt hsz hL hsh).mono fun e W' ⟨he,hb⟩=>?_;subst he;exact⟨_,rfl,aRh hl hr hW' hv (hspec ds W args p hA) hrt htb hb⟩
end
end Go.Proofs.YtcpbaddnmpeipaaGreatDoor
namespace Go.Proofs.YtcpbaddnmpeipaaGreatDoor
open Go.Shelf Go.Lib
open Vc
theorem aRj:(Rows.laid_unicode_utf8_first:DataW Unit)=Lib.firstData:=by kernel_rfl
theorem aRk:(Rows.laid_unicode_utf8_acceptRanges:DataW Unit)=Lib.acceptData:=by kernel_rfl
def aIt:pW:=[0,1,56,2,57,49,28,3,61,58,42,50,38,29,17,4,62,47,59,36,45,43,51,22,53,39,33,30,24,18,12,5,63,55,48,27,60,41,37,16,46,35,44,21,52,32,23,11,54,26,40,15,34,20,31,10,25,14,19,9,13,8,7,6]
theorem aRl:(Rows.laid_math_bits_deBruijn64tab:DataW Unit)=Lib.tabData .u8 aIt:=by kernel_rfl
theorem aRm {P:Program}{w:q9}{g:Nat}{t:TypeId}{k:IntKind}{zero:Array qB}(h:w.ShapedOpen P) (hg:g<P.globals.size)
  (h0:((begin P (fun _ _=>0) default).world.heap[g]?).bind Obj.row? =some (zero,t)) (hz:zero.size=1)
  (hb:P.buildable t=true) (hc:P.cellTypes P.depth t=some [t]) (hu:P.underlying t=some (.int k)): ∃m,w.cell? ⟨g,0,none⟩=some (.int k m):=by
 obtain⟨cs,hh,hs,hr⟩:=h.1 g zero t hg h0;obtain⟨ts,hts,_,hall⟩:=hr hb;rw[hc] at hts;cases hts;have h1:0<cs.size:=by omega
 obtain⟨u,hu',hok⟩:=hall 0 cs[0] (by simp [h1]);have:u=t:=by simpa using hu'.symm
 subst this;have hcell:w.cell? ⟨g,0,none⟩=some cs[0]:=by simp [World.cell?,hh,h1]
 rw[hcell];unfold Cell.ok at hok;rw[hu] at hok;cases hv:cs[0]<;>rw[hv] at hok<;>simp at hok
 rename_i k' m;exact⟨m,by rw[hok.1]⟩
theorem aRn {W:q9}(hsh:W.ShapedOpen Tryz.prog): ∃m,W.cell? ⟨0,0,none⟩=some (.int .i64 m):=
 aRm (t:=3) (zero:= #[.int .i64 0]) hsh (aT6 qD) qD rfl qD qD Tryz.underlying3
def aRo:Ren:=⟨fun x=>x,fun x=>if x=5 then 5 else if x=119 then 218 else if x=138 then 220 else 221,fun x=>if x=3 then 1 else 2⟩
theorem aRp {w:q9}{a:Addr}{v:qB}(h:w.cell? a=some v):a.block<w.heap.size:=by
 unfold World.cell? at h;split at h
 .rename_i hb;exact(aTT.1 hb).1
 cases h
theorem aRq {W:q9}(hL:laidMet Tryz.prog Rows.blocksPrintRow.laid W) (hsh:W.ShapedOpen Tryz.prog):F8 W:=by
 obtain⟨m,hm⟩:=aRn hsh;have h0:=laidMet.reads hL (.tail _ (.head _));have h1:=laidMet.reads hL (.tail _ (.tail _ (.tail _ (.head _))));have h2:=laidMet.reads hL (.tail _ (.tail _ (.tail _ (.tail _ (.head _)))));rw[aRl] at h0;rw[aRj] at h2;rw[aRk] at h1;have hU:Lib.Utf8Tabs 1 2 W:=utf8Tabs_of_readsT (ρ:=aRo) ⟨qD,qD,qD,qD⟩ ⟨qD,qD,qD,qD,qD,qD,qD⟩ h2 h1;have hT:W.cell? ⟨5,15,none⟩=some (.int .u8 4):=by
  obtain⟨g,t,cs,fuel,p,hg,ht,hv,hd⟩:=h0;have hg0:Tryz.prog.globalNamed "math/bits.deBruijn64tab" =some 5:=by kernel_rfl
  have ht0:(Tryz.prog.globals[5]?).map (·.type)=some 273:=by kernel_rfl
  obtain rfl:=aTv (hg0.symm.trans hg);obtain rfl:=aTv (ht0.symm.trans ht);have hc:=cells_of_tab Tryz.underlying273 Tryz.underlying5 qD qD hd;rw[World.var?_cell hg hv 15,<-aUv,hc];rfl
 refine⟨?_,hU,⟨m,hm⟩,fun x hx=>?_⟩
 .have b0:5<W.heap.size:=aRp hT;show 6<=W.heap.size;omega
 unfold a85 at hx;obtain rfl:=aTH.1 hx;exact⟨pR,hT⟩
noncomputable def Z3 (os:Os):q9:=
 let w0:=World.holding Tryz.prog os ⟨#[],#[],[]⟩
 let uB (h:Array Obj) (g:Nat) (cs:Array qB):Array Obj:=h.modify g fun
  | .cells _ t frozen=> .cells cs t frozen
  |o=>o
 let h1:=uB w0.heap 1 (Lib.firstTab.map fun z=>Value.int .u8 z).toArray
 let h2:=uB h1 2 ((List.range 16).flatMap fun i=>[Value.int .u8 (Lib.accLo i),Value.int .u8 (Lib.accHi i)]).toArray
 let h3:=uB h2 5 (aIt.map fun z=>Value.int .u8 z).toArray
 let h4:=uB h3 4 (([0,1,28,2,29,14,24,3,30,22,20,15,25,17,4,8,31,27,13,23,21,19,16,7,26,12,18,6,11,5,10,9]:pW).map fun z=>Value.int .u8 z).toArray
 let h5:=uB h4 3 ((List.range 20).map fun i=>Value.int .u64 (10^i)).toArray
 {w0 with heap:=h5}
theorem aRr (os:Os) (args:Array qB):laidMet Tryz.prog Rows.blocksPrintRow.laid ((Z3 os).forCall (fun _ _=>0) ⟨#[],args,[]⟩).memory:=
 (LaidIn.of_run [4,5,3,2,1] 8 qD qD qD qD:LaidIn Tryz.prog _ Rows.blocksPrintRow.laid _).met
end Go.Proofs.YtcpbaddnmpeipaaGreatDoor
namespace Go.Proofs.YtcpbaddnmpeipaaGreatDoor
open Vc Go.RowKit
inductive a83 where
 |ty (t:TypeId) |fs (o:Nat) (l:List Field)
inductive CD (P:Program):a83->Ty->Prop
 |bool {t}:P.underlying t=some .bool->CD P (.ty t) .bool
 |int {t k}:P.underlying t=some (.int k)->CD P (.ty t) (.int k)
 |str {t}:P.underlying t=some .string->CD P (.ty t) .str
 |list {t e u}:P.underlying t=some (.slice e)->P.cellsOf e=u.cells->0<u.cells->0<P.bytesOf e->CD P (.ty e) u->CD P (.ty t) (.list u)
 |struct {t fs ty}:ty.isRow=true->P.underlying t=some (.struct fs)->P.cellsOf t=ty.cells->CD P (.fs 0 fs.toList) ty->CD P (.ty t) ty
 |nil {o}:CD P (.fs o []) .unit
 |cons {o}{f:Field}{r a b}:f.offset=o->P.cellsOf f.type=a.cells->CD P (.ty f.type) a->CD P (.fs (o+a.cells) r) b->CD P (.fs o (f::r)) (.pair a b)
def Bd:(t:Ty)->t.den->Prop
 | .str,s=>List.length s<=140737488351232
 | .int k,n=>(Lit.int k n).wf=true
 | .list u,l=>List.length l<=140737488351232/\∀x:u.den,x∈(l:List u.den)->Bd u x
 | .pair a b,x=>Bd a x.1/\Bd b x.2
 |_,_=>True
def KE (w:q9):Gh:=⟨fun b _=>b<w.heap.size,fun _=>none,fun _ _=>none⟩
theorem aIu {α:Type}{R:α->pX->Prop}{w:q9}{S:Nat->Nat->Prop}{c b:Nat}: ∀{l:List α}{o:Nat},(∀i x,l[i]? =some x->∃cs,cs.length=c/\w.rangeAt b (o+i*c) cs/\(∀j,j<c->S b (o+i*c+j))/\R x cs)->yM R w S c b o l
 |[],_,_=>trivial
 |x::l,o,h=>by
  refine⟨?_,aIu fun i y hy=>?_⟩
  .obtain⟨cs,h1,h2,h3,h4⟩:=h 0 x rfl;exact⟨cs,h1,by simpa using h2,by simpa using h3,h4⟩
  obtain⟨cs,h1,h2,h3,h4⟩:=h (i+1) y (by simpa using hy);have e:o+(i+1)*c=o+c+i*c:=by rw[aUC];omega
  exact⟨cs,h1,by rw[<-e];exact h2,by rw[<-e];exact h3,h4⟩
section
variable {H:Type}{enc:TypeId×qB->H}{P:Program}{W:q9}
theorem aIv {e:TypeId}: ∀{l:List (DataW H)}{i:Nat}{d:DataW H},l[i]? =some d->∀n∈d.weights P e,n∈DataW.weightsAll P e l
 |d0::l,0,d,h,n,hn=>by
  simp only[aT0,aTq] at h;subst h;simp only[DataW.weightsAll,aUe];exact .inl hn
 |d0::l,i+1,d,h,n,hn=>by
  simp only[aUc] at h;simp only[DataW.weightsAll,aUe];exact .inr (aIv h n hn)
 |[],_,_,h,_,_=>by simp at h
def aRs (enc:TypeId×qB->H) (P:Program) (W:q9):a83->Ty->Prop
 | .ty t,u=> ∀(fuel:Nat) (cs:pX) (y:DataW H×List MemPlace),DataW.trod enc P W 0 (fun _=>true) true fuel t cs=some y->(∀n∈y.1.weights P t,n<=reachBytes)->∃x:u.den,Rd (KE W) W u x cs/\Bd u x
 | .fs o l,u=> ∀(fuel:Nat) (cs:pX) (xs:List (DataW H×List MemPlace)),cs.length=o+u.cells->xs.length=l.length->(∀(i:Nat) (f:Field),l[i]? =some f->DataW.trod enc P W 0 (fun _=>true) true fuel f.type ((cs.drop f.offset).take (P.cellsOf f.type))=xs[i]?)->(∀n∈DataW.weightsEach P (l.map (·.type)) (xs.map (·.1)),n<=reachBytes)->∃x:u.den,Rd (KE W) W u x (cs.drop o)/\Bd u x
theorem aRt {e:TypeId}{u:Ty}{a:Addr}{len cap:Nat}(hc:P.cellsOf e=u.cells) (hpos:0<u.cells) (hcap:len<=cap)
  (each: ∀i,i<len->∃(cs:pX) (x:u.den),W.cells? 0 (a.add (i*u.cells)) u.cells=some cs/\Rd (KE W) W u x cs/\Bd u x):
  ∃l:List u.den,l.length=len/\Rd (KE W) W (.list u) l [.slice (some a) len cap]/\∀x∈l,Bd u x:=by
 have build: ∀k,k<=len->∃l:List u.den,l.length=k/\∀i x,l[i]? =some x->∃cs:pX,W.cells? 0 (a.add (i*u.cells)) u.cells=some cs/\Rd (KE W) W u x cs/\Bd u x:=by
  intro k
  induction k with
  |zero=>intro _;exact⟨[],rfl,fun i x h=>by simp at h⟩
  |succ k ih=>
   intro hk;obtain⟨l,h1,h2⟩:=ih pQ;obtain⟨cs,x,h3,h4⟩:=each k pQ;refine⟨l++[x],by simp [h1],fun i y hy=>?_⟩;rw[List.getElem?_append] at hy;split at hy
   .exact h2 i y hy
   rename_i hi;obtain⟨j,hj⟩: ∃j,i=l.length+j:=⟨i-l.length,pQ⟩;subst hj;rw[aUb] at hy;cases j with
   |zero=>
    simp only[aT0,aTq] at hy;subst hy;exact⟨cs,by rw[aUx,h1];exact h3,h4⟩
   |succ j=>simp at hy
 obtain⟨l,hll,hle⟩:=build len (aTO _);refine⟨l,hll,?_,fun x hx=>?_⟩
 .subst hll;by_cases hl0:l=[]
  .subst hl0;exact⟨some a,cap,rfl,hcap,.inl rfl⟩
  obtain⟨b,off,spot⟩:=a;have hlp:0<l.length:=aUk.2 hl0;have hspot:spot=none:=by
   obtain⟨cs,x,h3,_⟩:=each 0 hlp;have h4:=(World.cells?_some h3).2.2 0 hpos;have hlen0:=(World.cells?_some h3).2.1;rw[aTy pQ] at h4;simpa[Addr.add] using World.cell?_spot h4
  subst hspot;refine⟨_,cap,rfl,hcap,.inr ⟨b,off,rfl,aIu fun i x hx=>?_⟩⟩;obtain⟨cs,h3,h4,_⟩:=hle i x hx;obtain⟨_,h5,h6⟩:=World.cells?_some h3;have hcell: ∀j v,cs[j]? =some v->W.cell? ⟨b,off+i*u.cells+j,none⟩=some v:=by
   intro j v hv;have hj:j<u.cells:=by have:=(aTF.1 hv).1;omega
   have:=h6 j hj;rw[hv] at this;rw[Addr.add_lit,Addr.add_lit] at this;exact this
  refine⟨cs,h5,hcell,fun j hj=>?_,h4⟩;exact Vc.QB (hcell 0 _ (aTy pQ))
 obtain⟨i,hi,he⟩:=aU0 hx;obtain⟨cs,h3,h4,h5⟩:=hle i x (by rw[aTy hi,he]);exact h5
theorem aRu {ix:a83}{u:Ty}(h:CD P ix u):aRs enc P W ix u:=by
 induction h with
 |bool ht=>
  intro fuel cs y hy _;obtain⟨b,rfl,_⟩:=DataW.trod_bool ht hy;exact⟨b,rfl,trivial⟩
 |int ht=>
  intro fuel cs y hy _;obtain⟨n,rfl,_,hw⟩:=DataW.trod_int ht hy;exact⟨n,rfl,hw⟩
 |str ht=>
  intro fuel cs y hy hw;obtain⟨s,rfl,rfl,_⟩:=DataW.trod_string ht hy;refine⟨s.data.toList,by show [Value.string s]=[Value.string ⟨s.data.toList.toArray⟩];rw[aUW],?_⟩;exact hw _ (by simp [DataW.weights])
 | @list t e u ht hc hpos hb _ ih=>
  intro fuel cs y hy hw;rcases DataW.trod_slice ht hy with⟨rfl,_⟩ |⟨a,len,cap,elems,rest,n,_,rfl,rfl,_,hl,_,hlen,hall,_,_⟩
  .exact⟨[],⟨none,0,rfl,aTO _,.inl rfl⟩,by simp,fun x hx=>by cases hx⟩
  .have hws:DataW.weights P t (.slice (elems.map (·.1)) (rest.map (·.1)))=((elems.map (·.1)).length+(rest.map (·.1)).length)*P.bytesOf e::(DataW.weightsAll P e (elems.map (·.1))++DataW.weightsAll P e (rest.map (·.1))):=by
    simp [DataW.weights,ht]
   rw[hws] at hw;have hn:=hw _ aTJ;obtain⟨l,h1,h2,h3⟩:=aRt (W:=W) (a:=a) (cap:=cap) hc hpos hl fun i hi=>by
    have h1:=hall i hi;rw[hc,aTy pQ,Option.bind_eq_some_iff] at h1;obtain⟨cs,h2,h3⟩:=h1;obtain⟨x,hx⟩:=ih n cs _ h3 fun m hm=>hw m (by
     refine aTB _ (aUe.2 (.inl (aIv (i:=i) ?_ m hm)));rw[List.getElem?_map,aTy pQ];rfl)
    exact⟨cs,x,h2,hx⟩
   refine⟨l,h2,?_,h3⟩;have:elems.length<=(elems.length+rest.length)*P.bytesOf e:=by
    calc elems.length<=(elems.length+rest.length)*1:=by omega
     _<=_:=Nat.mul_le_mul_left _ hb
   simp only[aUl] at hn;have hr:reachBytes=140737488351232:=rfl;show l.length<=_;omega
 |struct hrow ht hcl _ ih=>
  intro fuel cs y hy hw;obtain⟨xs,n,rfl,rfl,hl,hlen,hf⟩:=DataW.trod_struct ht hy;have:=ih n cs xs (by rw[hl,hcl];omega) (by rw[hlen];simp) (fun i f hi=>hf i f (by simpa using hi)) fun m hm=>hw m (by simpa[DataW.weights,ht] using hm);rwa [aUN] at this
 |nil=>
  intro fuel cs xs hl _ _ _;refine⟨(),?_,trivial⟩;show cs.drop _=[];exact List.drop_of_length_le (by simp [Ty.cells] at hl;omega)
 | @cons o f r a b ho hc _ _ iha ihb=>
  intro fuel cs xs hl hx hf hw;cases xs with
  |nil=>simp at hx
  |cons x0 xs=>
   have h0:=hf 0 f rfl;rw[hc,ho] at h0;obtain⟨xa,ra,ba⟩:=iha fuel _ x0 h0 fun m hm=>hw m (by simp only[aUt,DataW.weightsEach,aUe];exact .inl hm);obtain⟨xb,rb,bb⟩:=ihb fuel cs xs (by simp only[Ty.cells] at hl;omega) (by simpa using hx) (fun i f' hi=>by have:=hf (i+1) f' (by simpa using hi);simpa using this) fun m hm=>hw m (by simp only[aUt,DataW.weightsEach,aUe];exact .inr hm);refine⟨(xa,xb),⟨_,_,(aUS a.cells (cs.drop o)).symm,ra,?_⟩,ba,bb⟩;rw[aVy];exact rb
theorem aRv {t:TypeId}{u:Ty}{base:Nat}{v:qB}{d:DataW H}{ps:List MemPlace}(h:CD P (.ty t) u) (hok:Value.okWide P W .any base t v) (hT:DataW.Trod enc P W 0 (fun _=>true) true t v d ps) (hw: ∀n∈d.weights P t,n<=reachBytes): ∃x:u.den,tD (KE W) W u x v/\Bd u x:=by
 obtain⟨fuel,hf⟩:=hT;obtain⟨x,hx,hb⟩:=aRu (enc:=enc) (W:=W) h fuel _ _ hf hw;refine⟨x,?_,hb⟩;cases h with
 |bool ht=>obtain⟨b,rfl⟩:=Go.WideShapes.okWide_bool ht hok;exact .inr ⟨rfl,hx⟩
 |int ht=>obtain⟨b,rfl⟩:=Go.WideShapes.okWide_int ht hok;exact .inr ⟨rfl,hx⟩
 |str ht=>obtain⟨b,rfl⟩:=Go.WideShapes.okWide_string ht hok;exact .inr ⟨rfl,hx⟩
 |list ht=>obtain⟨a,l,c,rfl⟩:=Go.WideShapes.okWide_slice ht hok;exact .inr ⟨rfl,hx⟩
 |struct hrow ht=>obtain⟨cs,rfl,_⟩:=Go.WideShapes.okWide_struct ht hok;exact .inl ⟨hrow,cs.toList,by rw[aUW],hx⟩
end
end Go.Proofs.YtcpbaddnmpeipaaGreatDoor
namespace Go.Proofs.YtcpbaddnmpeipaaGreatDoor
open Vc
open Go.ChangeShapes Go.WideShapes Go.ChangeAt Go.RowKit
theorem aRw:CD Tryz.prog (.ty 9) .str:= .str Tryz.underlying9
theorem aRx {W:q9}(hT:F8 W) (u:qB) (s:pM) (hu:tD (KE W) W .str s u):
  Calls Tryz.prog 9 #[u] W fun e W'=>e= .returned (.bool true)/\Below W.heap.size W W':=by
 have hC:a74 (S3 s) Y1=some (OZ s):=aNX _;have ht:=aRf s;refine(aNZ.1.2 (KE W) W (S3 s) [u] [] _ ⟨(fun i b h=>by cases h),(fun i j bi bj b o _ h=>by cases h),fun b o h=>h,hT,(fun i blk b o h=>by cases h)⟩ ⟨u,[],rfl,⟨hu,trivial⟩,rfl⟩ hC ?_).mono fun e W' ⟨v,g',he,r⟩=>?_
 .intro p hp;have:p=((MT s).isSome=true):=by simpa[OZ] using hp
  rw[this,ht];rfl
 have hv:v= .bool true:=by
  have h1:=r.ret;unfold OZ at h1;rw[ht] at h1;exact vE h1.1
 subst hv;exact⟨he,⟨r.fr.os,r.fr.tape,r.fr.output,r.fr.size,fun k hk=>r.fr.blk k hk (fun o ⟨i,blk,hi,_⟩=>by cases hi)⟩⟩
end Go.Proofs.YtcpbaddnmpeipaaGreatDoor
namespace Go.Proofs.YtcpbaddnmpeipaaGreatDoor
open Go.ChangeShapes Go.WideShapes Go.ChangeAt Go.RowKit Go.Lib
theorem aRy:(Rows.blocksWholeRow.inPlace==Tryz.prog.inPlace 9)=true:=by kernel_rfl
theorem aRz:(Rows.blocksWholeRow.unfollowed==Tryz.prog.unfollowed 9)=true:=by kernel_rfl
theorem aRA:(Rows.blocksWholeRow.recurses==Tryz.prog.recurses 9)=true:=by kernel_rfl
theorem aRB:(Rows.blocksWholeRow.named==Tryz.prog.varsNamed 9)=true:=by kernel_rfl
theorem aRC:joinedFacts Tryz.prog 9 Tryz.f9 Rows.blocksWholeSpec Rows.blocksWholeRow=true:=by
 unfold joinedFacts;rw[aRy,aRz,aRA,aRB]
 kernel_rfl
namespace blocksWholeLaw
theorem own:ownKnob Tryz.prog.godebug=none:=by kernel_rfl
theorem GF:laidOutB Tryz.prog=true:=by kernel_rfl
theorem zR:Tryz.prog.readableRec 9=true:=by kernel_rfl
theorem ltS:9<Tryz.prog.types.size:=aT6 qD
theorem aRE (os:Os) {H:Type}(enc:TypeId×qB->H):
  (OpenSpec.ofChange Rows.blocksWholeSpec).preRow enc Tryz.prog Tryz.f9 [] false Rows.blocksWholeRow.laid ((Z3 os).forCall (fun _ _=>0) ⟨#[],#[.string ⟨#[]⟩],[]⟩).memory #[.string ⟨#[]⟩]:=by
 have hw:(DataW.whole enc Tryz.prog ((Z3 os).forCall (fun _ _=>0) ⟨#[],#[.string ⟨#[]⟩],[]⟩).memory Tryz.f9.params.toList (OpenSpec.ofChange Rows.blocksWholeSpec).vars false #[.string ⟨#[]⟩].toList 8).map (fun x=>(x.1,x.2.1))=
   some ([.lit (.string [])],[]):=by kernel_rfl
 obtain⟨⟨x1,x2,x3⟩,hx,hx1⟩:=aTG.1 hw;simp only[aTU] at hx1;obtain⟨rfl,rfl⟩:=hx1;exact OpenSpec.preRow_of_cond 8 hx qD (fun k hk=>by cases hk) qD (aRr os _)
theorem lifted (os:Os) (started:os.Started) (H:Type) (enc:TypeId×qB->H) (F:Stop.Interp):
  ReturnsInHanded {} Tryz.checked os 9 .any ((OpenSpec.ofChange Rows.blocksWholeSpec).preRow enc Tryz.prog Tryz.f9 [] false Rows.blocksWholeRow.laid) (Rows.blocksWholeSpec.post enc Tryz.prog Tryz.f9 false true false false):=by
 refine aRi (C:=Tryz.checked) (tb:=4) own started F qD Tryz.func9 GF ?_ rfl rfl Tryz.underlying4 ?_
  (witness_row_atRef (enc:=enc) (C:=Tryz.checked) false (Z3 os) #[.string ⟨#[]⟩] rfl qD qD qD (aRE os enc)) ?_
 .intro t ht;rw[Tryz.params9] at ht;simp only[aTE,aUV,or_false] at ht;rcases ht with rfl
  exact⟨zR,ltS⟩
 .intro ds W args ps h;have h':DataW.TrodAll enc Tryz.prog W 0 (fun _=>true) true Tryz.f9.params.toList args.toList ds ps:=h;rw[Tryz.params9] at h';obtain⟨v0,d0,rfl,rfl,h0⟩:=trodAll_one h';rfl
 intro W base args ds ps hval0 hA0 hlt hsz0 hL hsh;have hval: ∀(j:Nat) t v,Tryz.f9.params[j]? =some t->args[j]? =some v->Value.okWide Tryz.prog W .any base t v:=hval0;have hA:DataW.TrodAll enc Tryz.prog W 0 (fun _=>true) true Tryz.f9.params.toList args.toList ds ps:=hA0;have hsz:(DataW.weightsEach Tryz.prog Tryz.f9.params.toList ds).all (·<=reachBytes)=true:=hsz0;rw[Tryz.params9] at hA hval hsz;obtain⟨v0,d0,rfl,rfl,h0⟩:=trodAll_one hA;obtain⟨s,hu,_⟩:=aRv aRw (hval 0 9 v0 rfl rfl) h0 (fun n hn=>by
  have:=aUr.1 hsz n (DataW.weights_mem_each (j:=0) rfl rfl n hn);simpa using this)
 exact aRx (aRq hL hsh) v0 s hu
end blocksWholeLaw
theorem aIw:Rows.BlocksWholeSaid:=
 OpenClaim.holds_of_wide 9 Tryz.f9 rfl rfl rfl rfl rfl rfl rfl ⟨rfl,rfl,rfl,rfl,rfl⟩ rfl rfl rfl rfl rfl qD Tryz.func9 aRC
  (aT6 qD) (by unfold Func.isWrapper;first|(rw[aTr (by decide+kernel)];kernel_rfl) |(rw[aTs (by decide+kernel)];exact⟨rfl,rfl⟩))
  (fun os started H enc _=>by rw[OpenClaim.pre_eq_preRow];exact blocksWholeLaw.lifted os started H enc (fun _ _ _=>0))
#print axioms aIw
end Go.Proofs.YtcpbaddnmpeipaaGreatDoor
namespace Go.Proofs.YtcpbaddnmpeipaaGreatDoor
open Go
theorem aRF:Rows.blocksWholeRow.wfByText (OpenSpec.ofChange Rows.blocksWholeSpec)=true:=by kernel_rfl
theorem aRG:Tryz.prog.mainIs=some (true, "5d87d424bdcb739eb2e592d3312f44549b2e7d9aae6f0497c2ce86444ec20ce9".toList):=by kernel_rfl
theorem aRH:false=Tryz.prog.looks []:=by kernel_rfl
theorem aRI:false=Rows.blocksWholeRow.goesBy Tryz.prog:=by kernel_rfl
theorem aRJ:Tryz.prog.funcNamed "calque/calquelaw39.BlocksWhole" =some 9:=by kernel_rfl
theorem aRK:([9].all fun u=> !Tryz.prog.wantsStandIn u)=true:=by kernel_rfl
theorem blocksWholeCard_holds:Rows.BlocksWholeCardSaid:=
 Claim7.holds_tied_plain_at .later [] [.data,.data,.data,.data,.pinned] true (true, "5d87d424bdcb739eb2e592d3312f44549b2e7d9aae6f0497c2ce86444ec20ce9") false
  aIw (fun _ h=>by cases h) aRF (fun _ h=>by cases h) blocksWhole_row_tie rfl ⟨rfl,rfl⟩ aRG rfl
  (fun f fn hf hfn=>by
   obtain rfl:f=9:=aTv (aRJ.symm.trans hf) |>.symm
   obtain rfl:fn=Tryz.f9:=(aTv (Tryz.func9.symm.trans hfn)).symm;exact⟨aRH,fun j t ht=>by
    rw[Tryz.params9] at ht;have hm:t∈[9]:=by simpa using Array.mem_of_getElem? ht
    exact(show Tryz.prog.wantsStandIn t=false by simpa using aUr.1 aRK t hm)⟩)
  aRI
#print axioms blocksWholeCard_holds
end Go.Proofs.YtcpbaddnmpeipaaGreatDoor
