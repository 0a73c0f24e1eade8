/- Packed by a program of mine (wip/tools/pack.py): the same texts with short names and few blanks. -/
import Derived.ChangeKeysEq
import Derived.Laws.BytesArg
import Derived.Laws.StructEq
import Derived.Lib.AppendStr
import Derived.MapKept
import Derived.RangeFuncLeaves
import Derived.RangeFuncNested
import Derived.WalkSpells
import Derived.Test.YtcpbaddnmpeipaaGreatDoorI00
set_option linter.defProp false
set_option linter.unusedVariables false
set_option linter.unusedSimpArgs false
set_option linter.unusedSectionVars false
set_option maxRecDepth 100000
set_option maxHeartbeats 4000000
namespace Go.Proofs.YtcpbaddnmpeipaaGreatDoor.Vc
open Go.RowKit
def yJ (g:Gh) (base:Nat) (e:qY):Prop:= ∀i,i∈qQ e.upd->base<=i->g.J i=none/\∀n,g.cur i n=none
section
variable {P:Program}{o:Oper}{a:Act}{g:Gh}{w:q8}{H:sF}{T:sW}(hT:xU P T) (hH:sK g w H)
include hT hH
theorem Mk {x:Operand}(ho:o.op= .move x\/o.op= .assign x) {sx:qK}(z:rS g w sx (a.eval x)) {base:Nat}{e:qY}(hr:cq base (rY T o.type) sx=some e) (hf:yJ g base e):rN P o a g w H e:=by
 have h:(execOp a.eval o).run P w= .ok (.value (a.eval x)) w:=by rcases ho with ho|ho<;>simp [execOp,ho]
 generalize hst:rY T o.type=ot at hr;unfold cq at hr;split at hr
 .cases hr;have D:a.eval x= .slice none 0 0:=z.1;have j:=(hf base (by simp [qQ]) (aFW _)).2;refine rN.value (v:= .slice none 0 0) (by rw[h,D]) (rR.row (v:= .slice none 0 0) (xs:=[]) hH rfl (World.ownsRow_nil w 0 _ _) rfl (fun m _=>j m) (fun u E=>by rw[j] at E;cases E) (.inl ⟨rfl,rfl,rfl,aFW _,fun _ _ _=>rfl⟩) (fun _ _ _=>rfl) (fun b hb=>by cases hb) (fun b hb=>by cases hb) ⟨⟨by simp [Gh.tok],.inl ⟨rfl,rfl⟩⟩,trivial⟩)
 .cases hr;have D:a.eval x= .slice none 0 0:=z.1;refine rN.value (v:= .slice none 0 0) (by rw[h,D]) (rR.nilTok hH rfl (hf base (by simp [qQ]) (aFW _)).2)
 .cases hr
 cases hr;exact rN.value h (.pure hH z)
theorem a4W {u:Ty}{y:List u.den}{k:pY}{v:q9}{cs:pW}(h:DW g (.list u) y v k) (j:cs=[v]):HS g (.list u) y cs (yA k 0):=by
 intro q kk hm;cases k with
 |none=>simp [yA] at hm
 |some k=>
  simp only[yA,aFR,aF3] at hm;obtain⟨rfl,rfl⟩:=hm;exact⟨u,y,v,by unfold rE;simp [uG],by rw[j];rfl,h⟩
omit hT hH in
theorem gx {w:q8}: ∀(ls:List (Nat×TypeId×Nat)) (i:Nat) (g:Gh) (H:sF),sK g w H->(∀j,i<=j->j<i+ls.length->∀n,g.cur j n=none)->
  ∃g1,rR g w H ⟨[],(.any,none),EN ls i,[]⟩ g1 w undef/\g1.J=g.J/\(∀o k,(o,k)∈CS ls i->g1.cur k 0=some (.slice none 0 0))/\(∀k,k<i->g1.cur k=g.cur k)
 |[],i,g,H,hH,_=>⟨g,.pure hH ⟨trivial,trivial⟩,rfl,fun _ _ h=>by simp [CS] at h,fun _ _=>rfl⟩
 |(o,e,c)::r,i,g,H,hH,hf=>by
  have e1:=rR.nilTok (side:=[]) (d:= .val (.list .bool) []) (rds:=[]) (base:=i) (e:=e) (c:=c) (u:= .bool) hH rfl (hf i (aFW _) pR);have z: ∀k n,k≠i->(g.tok i 0 (.slice none 0 0)).cur k n=g.cur k n:=fun k n D=>by
   show (if k=i/\n=0 then _ else _)=_;rw[aFA (fun h=>D h.1)]
  obtain⟨g1,k1,k2,k3,k4⟩:=gx r (i+1) (g.tok i 0 (.slice none 0 0)) (r7 [(i,qJ.grow e c 0)] H) e1.heap (fun j F E n=>by rw[z j n pP];exact hf j pP (by simp only[aFF];omega) n);refine⟨g1,e1.trans k1,k2.trans rfl,fun o' k hm=>?_,fun k D=>?_⟩
  .simp only[CS,aFN,aF3] at hm;rcases hm with⟨rfl,rfl⟩ |hm
   .rw[k4 _ pP];show (if k=k/\0=0 then _ else _)=_;simp
   exact k3 o' k hm
  rw[k4 k pP];funext n;exact z k n pP
omit hT hH in
theorem gy: ∀{ls:List (Nat×TypeId×Nat)}{i o k:Nat},(o,k)∈CS ls i->∃q∈ls,q.1=o
 |[],_,_,_,h=>by simp [CS] at h
 |(o',e,c)::r,i,o,k,h=>by
  simp only[CS,aFN,aF3] at h;rcases h with⟨j,_⟩ |h
  .exact⟨(o',e,c),by simp,j.symm⟩
  obtain⟨q,j,z⟩:=gy h;exact⟨q,by simp [j],z⟩
omit hT hH in
theorem gz {t:Ty}: ∀{ls:List (Nat×TypeId×Nat)},G2 t ls=true->∀q∈ls,G1 t q.1=true
 |[],_,_,h=>by cases h
 |(o,e,c)::r,h,q,hq=>by
  simp only[G2,aFL] at h;rcases aFN.1 hq with rfl|hq
  .exact h.1
  exact gz h.2 q hq
omit hT hH in
theorem RU: ∀(ls:List (Nat×TypeId×Nat)) (i j:Nat),j∈qQ (EN ls i)↔i<=j/\j<i+ls.length
 |[],i,j=>by simp only[EN,qQ,aG5,aFS,false_iff];omega
 |(o,e,c)::r,i,j=>by
  simp only[EN,CY,RU r (i+1) j,qQ,aFR,aFF];omega
omit hT hH in
theorem ia {w:q8}: ∀(R:List (Nat×Nat×Ty)) (i:Nat) (g:Gh) (H:sF),sK g w H->(∀j,i<=j->j<i+R.length->∀n,g.cur j n=none)->
  ∃g1,rR g w H ⟨[],(.any,none),G3 R i,[]⟩ g1 w undef/\g1.J=g.J/\(∀j,j<R.length->g1.cur (i+j) 0=some (.slice none 0 0))/\(∀k,k<i->g1.cur k=g.cur k)
 |[],i,g,H,hH,_=>⟨g,.pure hH ⟨trivial,trivial⟩,rfl,fun _ h=>by simp at h,fun _ _=>rfl⟩
 |(o,e,u)::r,i,g,H,hH,hf=>by
  have z:=hf i (aFW _) pR;have e1:=rR.row (side:=[]) (rds:=[]) (k:=i) (e:=e) (t:=u) (l:=[]) (n:=0) (s:=(.any,none)) (val:=undef) (v:= .slice none 0 0) (xs:=[]) hH rfl (World.ownsRow_nil w 0 _ _) rfl (fun m _=>z m) (fun u E=>by rw[z] at E;cases E) (.inl ⟨rfl,rfl,rfl,aFW _,fun _ _ _=>rfl⟩) (fun _ _ _=>rfl) (fun b hb=>by cases hb) (fun b hb=>by cases hb) ⟨trivial,trivial⟩;have D: ∀k n,k≠i->(g.tok i 0 (.slice none 0 0)).cur k n=g.cur k n:=fun k n F=>by
   show (if k=i/\n=0 then _ else _)=_;rw[aFA (fun h=>F h.1)]
  obtain⟨g1,k1,k2,k3,k4⟩:=ia r (i+1) (g.tok i 0 (.slice none 0 0)) (r7 [(i,qJ.row e u [] 0)] H) e1.heap (fun j K I n=>by rw[D j n pP];exact hf j pP (by simp only[aFF];omega) n);refine⟨g1,e1.trans k1,k2.trans rfl,fun j G=>?_,fun k F=>?_⟩
  .cases j with
   |zero=>
    rw[aGK,k4 _ pP];show (if i=i/\0=0 then _ else _)=_;simp
   |succ j=>
    have:=k3 j (by simpa using G);rwa [show i+1+j=i+(j+1) by omega] at this
  rw[k4 k pP];funext n;exact D k n pP
omit hT hH in
theorem X1: ∀(R:List (Nat×Nat×Ty)) (i j:Nat),j∈qQ (G3 R i)↔i<=j/\j<i+R.length
 |[],i,j=>by simp only[G3,qQ,aG5,aFS,false_iff];omega
 |(o,e,c)::r,i,j=>by
  simp only[G3,CY,X1 r (i+1) j,qQ,aFR,aFF];omega
omit hT hH in
theorem ib {α:Type}: ∀l:List α,R3 l=l.length
 |[]=>rfl
 |_::l=>by simp only[R3,ib l,aFF]
omit hT hH in
theorem Ml {g:Gh}{w:q8}: ∀{t:Ty}{x:t.den}{cs:pW}{o:Nat},Rd g w t x cs->∀q∈AD t x o,o<=q.1/\cs[q.1-o]? =some (.slice none 0 0):=by
 intro t
 induction t with
 |pair a b iha ihb=>
  intro x cs o r q hq;obtain⟨c1,c2,rfl,r1,r2⟩:=r;simp only[AD,HT] at hq;have hl:=sZ r1;rcases hq with hq|hq
  .obtain⟨j,h⟩:=iha r1 q hq;exact⟨j,by rw[aFU (aFP.1 h).1];exact h⟩
  .obtain⟨j,h⟩:=ihb r2 q hq;refine⟨pP,?_⟩;rw[aFJ pP,hl,show q.1-o-a.cells=q.1- (o+a.cells) by omega];exact h
 |rl e u=>
  intro x cs o r q hq;cases x with
  |none=>
   simp only[AD,ct,aFR] at hq;subst hq;refine⟨aFW _,?_⟩;rw[show cs=[.slice none 0 0] from r];simp
  |some z=>simp [AD,ct] at hq
 |_=>intro x cs o r q hq;simp [AD] at hq
omit hT hH in
theorem a4X {g:Gh}{w:q8}: ∀{t:Ty}{x:t.den}{cs:pW}{o:Nat},Rd g w t x cs->∀q∈HI t x o,o<=q/\cs[q-o]? =some (.pointer none):=by
 intro t
 induction t with
 |pair a b iha ihb=>
  intro x cs o r q hq;obtain⟨c1,c2,rfl,r1,r2⟩:=r;simp only[HI,HT] at hq;have hl:=sZ r1;rcases hq with hq|hq
  .obtain⟨j,h⟩:=iha r1 q hq;exact⟨j,by rw[aFU (aFP.1 h).1];exact h⟩
  .obtain⟨j,h⟩:=ihb r2 q hq;refine⟨pP,?_⟩;rw[aFJ pP,hl,show q-o-a.cells=q- (o+a.cells) by omega];exact h
 |mref=>
  intro x cs o r q hq;cases x with
  |none=>
   simp only[HI,cu,aFR] at hq;subst hq;refine⟨aFW _,?_⟩;rw[show cs=[.pointer none] from r];simp
  |some z=>simp [HI,cu] at hq
 |_=>intro x cs o r q hq;simp [HI] at hq
omit hT hH in
theorem ic {g:Gh}{w:q8}{t u:Ty}{x z:t.den}{y:u.den}{cs:pW}{o:Nat}{v:q9}(h:sQ u y t x o=some z) (j:Rd g w u y [v]) (G:Rd g w t x cs) (D:cs[o]? =some v):Rd g w t z cs:=by
 obtain⟨c1,c2,c3,rfl,rfl,F,h3⟩:=RN j G h;have E:=sZ j;simp only[aGC] at E;rw[<-E] at F;obtain⟨v',rfl⟩:=aGS.1 F;have:(c1++[v']++c3)[c1.length]? =some v':=by simp
 rw[this] at D;obtain rfl:=aFE D;exact h3
omit hT hH in
theorem ie {g:Gh}{w:q8}{t:Ty}{cs:pW}: ∀{R:List (Nat×Nat×Ty)}{i:Nat}{x z:t.den},C5 t i R (some x)=some z->Rd g w t x cs->(∀q∈R,cs[q.1]? =some (.slice none 0 0))->(∀j,j<R.length->g.cur (i+j) 0=some (.slice none 0 0))->Rd g w t z cs
 |[],i,x,z,h,E,_,_=>by simp only[C5,aFy] at h;exact h▸E
 |(o,e,u)::r,i,x,z,h,E,G,F=>by
  simp only[C5] at h;cases D:sQ (.rl e u) (some (i,0)) t x o with
  |none=>rw[D] at h;cases r<;>simp [C5] at h
  |some x'=>
   rw[D] at h;refine ie h (ic (v:= .slice none 0 0) D ⟨_,by simpa using F 0 pR,rfl,.inl ⟨rfl,rfl⟩⟩ E (G _ aFT)) (fun q hq=>G q (aFK _ hq)) (fun j I=>?_);have:=F (j+1) (by simpa using I);rwa [show i+(j+1)=i+1+j by omega] at this
omit hT hH in
theorem Mm {g:Gh}{w:q8}{t:Ty}{cs:pW}{i:Nat}{p:Pl}(hp:g.J i=some p) (j:p.2=0): ∀{M:pZ}{x z:t.den},JJ t i M (some x)=some z->Rd g w t x cs->(∀q∈M,cs[q]? =some (.pointer none)/\fw p.3 q)->Rd g w t z cs
 |[],x,z,h,F,_=>by simp only[JJ,aFy] at h;exact h▸F
 |q::r,x,z,h,F,E=>by
  simp only[JJ] at h;cases D:sQ .mref (some (i,q)) t x q with
  |none=>rw[D] at h;cases r<;>simp [JJ] at h
  |some x'=>
   rw[D] at h;exact Mm hp j h (ic (v:= .pointer none) D ⟨p,hp,by rw[j,aF6];exact(E _ aFT).2,.inl rfl⟩ F (E _ aFT).1) (fun q hq=>E q (aFK _ hq))
omit hT hH in
theorem X2 {k:Nat}: ∀{ls:List (Nat×TypeId×Nat)}{q:Nat×TypeId×Nat},q∈CT k ls->q.1+1≠k
 |[],_,h=>by cases h
 |(o,e,c)::r,q,h=>by
  simp only[CT] at h;split at h
  .exact X2 h
  rename_i j;rcases aFN.1 h with rfl|h
  .exact j
  exact X2 h
omit hT in
theorem ig {t:Ty}{y:t.den}{ls:List (Nat×TypeId×Nat)}{base:Nat}{e:qY}{cs:pW}{el:TypeId}(hr:R4 base el t y ls (G2 t ls)=some e) (hf:yJ g base e) (U:Rd g w t y cs) (Z: ∀q∈ls,∃k,yH k t 0 cs/\q.1+1≠k):
  ∃g',rR g w H e g' (w.alloc (.cells cs.toArray el)) (.pointer (some ⟨w.heap.size,0,none⟩)):=by
 cases hl:G2 t ls with
 |false=>rw[hl] at hr;cases hr
 |true=>
  rw[hl] at hr;simp only[R4,ib] at hr;have cR:=fun q hq=>Ml (o:=0) U q hq;have cM: ∀q∈VB el t y,cs[q]? =some (.pointer none)/\fw (some (el,cs.length)) q:=by
   intro q hq;unfold VB at hq;split at hq
   .rename_i hb;have h0:=fun q hq=>a4X (o:=0) U q hq;have hl:=sZ U;generalize HI t y 0=M at hq h0;rw[<-hl] at hq;unfold Jw at hq;split at hq
    .rename_i D;simp only[aFR] at hq;subst hq;exact⟨by simpa using(h0 0 pR).2,rfl,el,hb,by rw[D]⟩
    cases hq
   cases hq
  generalize AD t y 0=R at hr cR;generalize VB el t y=M at hr cM;cases F:C5 t (base+1+ls.length) R (some y) with
  |none=>
   rw[F] at hr;have:JJ t base M none=none:=by cases M<;>rfl
   rw[this] at hr;cases hr
  |some z1=>
   rw[F] at hr;cases E:JJ t base M (some z1) with
   |none=>rw[E] at hr;cases hr
   |some z=>
    rw[E] at hr;simp only[Jy,ib] at hr;obtain rfl:=(aFE hr);have K: ∀j,base+1<=j->j<base+1+ls.length+R.length->g.J j=none/\∀n,g.cur j n=none:=fun j I D=>hf j (by
     simp only[qQ,aFN];right;rw[CY];by_cases h3:j<base+1+ls.length
     .exact .inr ((RU ls (base+1) j).2 ⟨I,h3⟩)
     exact .inl ((X1 R (base+1+ls.length) j).2 ⟨pP,D⟩)) pP
    have G:=hf base (by simp [qQ]) (aFW _);obtain⟨g1,k1,k2,k3,k4⟩:=gx ls (base+1) g H hH (fun j I D=>(K j I pP).2);have Q: ∀j,base+1+ls.length<=j->j<base+1+ls.length+R.length->∀n,g1.cur j n=none:=by
     intro j I D n;have:=(k1.gho j (by simp only;rw[RU];omega)).2;rw[this];exact(K j pP D).2 n
    obtain⟨g2,m1,m2,m3,m4⟩:=ia R (base+1+ls.length) g1 _ k1.heap Q;have hJ:(g2.var base w.heap.size (some (el,cs.length))).J base=some ⟨w.heap.size,0,some (el,cs.length)⟩:=by simp [Gh.var]
    have Y:Le g w (g2.var base w.heap.size (some (el,cs.length))) w:=by
     refine((k1.le.trans m1.le).trans ⟨fun _ _ h=>h,fun _ _ _=>rfl,fun i p h=>?_,fun _ _ _ h=>h⟩);show (if i=base then _ else _)=_;rw[aFA (fun e1=>by rw[e1,m2,k2,G.1] at h;cases h)];exact h
    have O:Rd (g2.var base w.heap.size (some (el,cs.length))) w t z cs:=Mm hJ rfl E (ie F (wT Y U) (fun q hq=>by simpa using(cR q hq).2) (fun j hj=>m3 j hj)) cM;have X:HS g2 t z cs (CS ls (base+1)):=by
     intro o k hm;obtain⟨q,hq,rfl⟩:=gy hm;obtain⟨kx,V,ha⟩:=Z q hq;obtain⟨u,I,D⟩:=Lu V O (gz hl q hq) pP;exact⟨u,[],_,I,D,m1.le.cur _ _ _ (k3 _ _ hm)⟩
    have e3:=rR.newVarJ (side:=[]) (rds:=[]) (base:=base) (toks:=CS ls (base+1)) (e:=el) m1.heap O X (by rw[m2,k2];exact G.1) (by rw[m4 base pP,k4 base pP];exact funext G.2);have e4:=rR.trans (side:=[]) (rds:=[]) k1 m1;exact⟨_,rR.trans (side:=[]) (rds:=[]) e4 (e3.congrH (H':=r7 (r7 (G3 R (base+1+ls.length)) (EN ls (base+1))) H) (by simp only[MG]))⟩
theorem ii {t:Ty}{y:t.den}{k:pY}{v:q9}(h:rS g w (.val t y,k) v):tD g w t y v/\DW g t y v k:=by
 refine⟨h.1,?_⟩;cases k with
 |none=>trivial
 |some k=>exact h.2
theorem a4Y {t:TypeId}{x:Operand}(ho:o.op= .box t x) {sx:qK}(K:rS g w sx (a.eval x)) {base:Nat}{e:qY}(hr:cz base t (rY T t) sx=some e) (hf:yJ g base e):rN P o a g w H e:=by
 generalize hst:rY T t=ot at hr;have z:(execOp a.eval o).run P w= .ok (.value (.pointer (some ⟨w.heap.size,0,none⟩))) (w.alloc (.cells (a.eval x).cells.toList.toArray t)):=by
  unfold execOp;rw[ho];simp only[Instr.box,Go.newVar,newRow,aFM,run_newObj,aFH,aF0,aG6];rfl
 have one: ∀{u:Ty}{y:u.den},tD g w u y (a.eval x)->u.isRow=false->(a.eval x).cells.toList=[a.eval x]:=fun E D=>by
  have I:=AS (xV D E) _ (aFR.2 rfl);cases h:a.eval x<;>first|rfl|(rw[h] at I;simp [Value.oneCell'] at I)
 unfold cz at hr;split at hr
 .rename_i ti u y k;split at hr
  .obtain⟨E,G⟩:=ii hT hH K;have F:=G9 E;unfold Jz at hr;split at hr
   .rename_i a' b' y' k' _;have M:yH k' (.pair a' b') 0 (a.eval x).cells.toList:=G;obtain⟨g',h⟩:=ig (el:=t) hH hr hf F (fun q hq=>⟨k',M,X2 hq⟩);exact rN.value z h
   .rename_i u' y' k';cases hr;have j:=hf base (by simp [qQ]) (aFW _);exact rN.value z (rR.newVar hH F (a4W hT hH G (one E rfl)) j.1 (funext j.2))
   cases hr;have j:=hf base (by simp [qQ]) (aFW _);exact rN.value z (rR.newVar hH F (fun q k hm=>by cases hm) j.1 (funext j.2))
  cases hr
 cases hr
theorem Mn {t:TypeId}(run: ∀ti,rY T t=some ti->(execOp a.eval o).run P w= .ok (.value (.pointer (some ⟨w.heap.size,0,none⟩))) (w.alloc (.cells (uI ti.ty).toArray t))) {base:Nat}{e:qY}(hr:R5 base t (rY T t)=some e) (hf:yJ g base e):rN P o a g w H e:=by
 generalize hst:rY T t=ot at hr;unfold R5 at hr;split at hr
 .rename_i u el by' ar ls_;cases hr;have j:=hf base (by simp [qQ]) (aFW _);have D:=hf (base+1) (by simp [qQ]) pP;have F:=t7 hT hst;have e1:=rR.nilTok (side:=[]) (d:= .val (.list u) []) (rds:=[]) (base:=base+1) (e:=el) (c:=u.cells) (u:=u) hH rfl D.2;have E:=e1.heap;have z:HS (g.tok (base+1) 0 (.slice none 0 0)) (.list u) [] [.slice none 0 0] [(0,base+1)]:=by
   intro q kk hm;simp only[aFR,aF3] at hm;obtain⟨rfl,rfl⟩:=hm;exact⟨u,[],.slice none 0 0,by unfold rE;simp [uG],rfl,by simp [Gh.tok]⟩
  have e2:=rR.newVar (side:=[]) (rds:=[]) (base:=base) (toks:=[(0,base+1)]) (e:=t) E (EQ (g.tok (base+1) 0 (.slice none 0 0)) w (.list u)) z j.1 (by
   funext n;show (if base=base+1/\n=0 then _ else _)=_;rw[aFA pP];exact j.2 n)
  exact rN.value (run _ hst) (rR.trans (side:=[]) (rds:=[]) e1 e2)
 .rename_i ti G;obtain⟨g',h⟩:=ig (el:=t) hH hr hf (EQ g w ti.ty) (fun q _=>⟨0,WU _ _,pP⟩);exact rN.value (run _ hst) h
 cases hr
theorem a4Z {t:TypeId}(ho:o.op= .alloc t) {base:Nat}{e:qY}(hr:R5 base t (rY T t)=some e) (hf:yJ g base e):rN P o a g w H e:=by
 have run: ∀ti,rY T t=some ti->(execOp a.eval o).run P w= .ok (.value (.pointer (some ⟨w.heap.size,0,none⟩))) (w.alloc (.cells (uI ti.ty).toArray t)):=by
  intro ti j;obtain⟨i,hi,E,z⟩:=ES (t7 hT j);have D:(yI ti.ty).cells=(uI ti.ty).toArray:=by
   have:=G9 (MH g w ti.ty);unfold yI;cases h:ti.ty<;>simp [Ty.isRow,uI,Value.cells]
  unfold execOp;rw[ho];simp only[Instr.alloc,zeroValue,typeInfo,Go.newVar,newRow,aFM,aGx,hi,z,D,run_newObj,aFH,aF0];rfl
 exact Mn hT hH run hr hf
theorem a40 {t:TypeId}{x:Operand}(ho:o.op= .box t x) {sx:qK}(E:rS g w sx (a.eval x)) (z: ∀ti:Option TI,rS g w (OI ti sx) (a.eval x)) {base:Nat}{e:qY}(hr:da base t (rY T t) sx=some e) (hf:yJ g base e):rN P o a g w H e:=by
 generalize hst:rY T t=ot at hr;unfold da at hr;split at hr
 .rename_i u el by' ls_ k;obtain⟨g',h⟩:=ig (el:=t) hH hr hf (show Rd g w (.rl el u) none [.slice none 0 0] from rfl) (fun q hq=>by cases hq);have D:a.eval x= .slice none 0 0:=E.1;refine rN.value ?_ h;unfold execOp;rw[ho];simp only[Instr.box,Go.newVar,newRow,aFM,run_newObj,aFH,aF0,D];rfl
 .rename_i u el by' ar ls_ k;rw[<-hst] at hr;refine Mn hT hH (fun ti j=>?_) hr hf;rw[hst] at j;cases j;have D:a.eval x= .slice none 0 0:=E.1;unfold execOp;rw[ho];simp only[Instr.box,Go.newVar,newRow,aFM,run_newObj,aFH,aF0,D];rfl
 rw[<-hst] at hr;exact a4Y hT hH ho (z _) hr hf
omit hT hH in
theorem a41 {t:Ty}{y:t.den}{k:pY}{v:q9}(h:DW g t y v k):DW g t y v (FY t k):=by
 cases t with
 |list u=>exact h
 |_=>trivial
omit hT hH in
theorem Mo {off:Nat}: ∀{l:pU}{o k:Nat},(o,k)∈OR off l->∃q,o=off+q/\(q,k)∈l
 |[],_,_,h=>by cases h
 |(q,k')::r,o,k,h=>by
  simp only[OR,aFN,aF3] at h;rcases h with⟨rfl,rfl⟩ |h
  .exact⟨q,rfl,aFT⟩
  obtain⟨q',z,j⟩:=Mo h;exact⟨q',z,aFK _ j⟩
omit hT hH in
theorem Mq {v t:Ty}{y:t.den}: ∀{u:Ty}{x z:u.den}{o q:Nat}{l:(Ty.list v).den},sQ t y u x o=some z->rE (.list v) t y q=some l->q<t.cells->rE (.list v) u z (o+q)=some l:=by
 intro u
 induction u with
 |pair a b iha ihb=>
  intro x z o q l h g hq;by_cases D:o=0/\t= .pair a b
  .obtain⟨rfl,rfl⟩:=D;unfold sQ at h;rw[aHB rfl] at h;simp only[uG,aFy] at h;subst h;simpa using g
  .have keyh:(if o<a.cells then(sQ t y a x.1 o).map (fun q=>(q,x.2)) else(sQ t y b x.2 (o-a.cells)).map (fun q=>(x.1,q)))=some z:=by
    cases o with
    |zero=>
     unfold sQ at h;rw[aG3 (fun e=>D ⟨rfl,e⟩)] at h;simpa using h
    |succ o=>simpa[sQ] using h
   have keyg: ∀m,rE (.list v) (.pair a b) z m=(if m<a.cells then rE (.list v) a z.1 m else rE (.list v) b z.2 (m-a.cells)):=by
    intro m;cases m with
    |zero=>
     conv=>lhs;unfold rE
     rw[aG3 (by intro e;cases e),Nat.zero_sub]
    |succ m=>simp [rE]
   rw[keyg];by_cases ho:o<a.cells
   .rw[aFz ho] at keyh;obtain⟨z',j,rfl⟩:=aFQ.1 keyh;have E:o+t.cells<=a.cells:=by
     have: ∀{u:Ty}{x z:u.den}{o:Nat},sQ t y u x o=some z->o+t.cells<=u.cells:=by
      intro u
      induction u with
      |pair a b iha ihb=>
       intro x z o h;have key: ∀o,(if o<a.cells then(sQ t y a x.1 o).map (fun q=>(q,x.2)) else(sQ t y b x.2 (o-a.cells)).map (fun q=>(x.1,q)))=some z->o+t.cells<=a.cells+b.cells:=by
        intro o h;by_cases ho:o<a.cells
        .rw[aFz ho] at h;obtain⟨z',j,_⟩:=aFQ.1 h;have:=iha j;omega
        rw[aFA ho] at h;obtain⟨z',j,_⟩:=aFQ.1 h;have:=ihb j;omega
       cases o with
       |zero=>
        unfold sQ at h;split at h
        .rename_i e;subst e;simp
        .exact key 0 (by simpa using h)
       |succ o=>exact key (o+1) (by simpa[sQ] using h)
      |_=>
       intro x z o h;cases o with
       |zero=>
        unfold sQ at h;split at h
        .rename_i e;subst e;simp
        .simp at h
       |succ o=>simp [sQ] at h
     exact this j
    rw[aFz pP];exact iha j g hq
   .rw[aFA ho] at keyh;obtain⟨z',j,rfl⟩:=aFQ.1 keyh;rw[aFA pP,show o+q-a.cells=o-a.cells+q from by omega];exact ihb j g hq
 |_=>
  intro x z o q l h g hq;cases o with
  |zero=>
   unfold sQ at h;split at h
   .rename_i e;subst e;simp only[uG,aFy] at h
    try subst h
    simpa using g
   .simp at h
  |succ o=>simp [sQ] at h
omit hT hH in
theorem Mr {v:Ty}: ∀{t:Ty}{x:t.den}{q:Nat}{l:(Ty.list v).den},rE (.list v) t x q=some l->q<t.cells:=by
 intro t
 induction t with
 |pair s t ihs iht=>
  intro x q l g;have key: ∀q,(if q<s.cells then rE (.list v) s x.1 q else rE (.list v) t x.2 (q-s.cells))=some l->q<s.cells+t.cells:=by
   intro q g;by_cases h:q<s.cells
   .omega
   rw[aFA h] at g;have:=iht g;omega
  cases q with
  |zero=>
   unfold rE at g;rw[aG3 (by intro e;cases e)] at g;exact key 0 (by simpa using g)
  |succ q=>exact key (q+1) (by simpa[rE] using g)
 |unit=>
  intro x q l g;cases q with
  |zero=>unfold rE at g;rw[aG3 (by intro e;cases e)] at g;cases g
  |succ q=>simp [rE] at g
 |_=>
  intro x q l g;cases q with
  |zero=>simp [Ty.cells]
  |succ q=>simp [rE] at g
omit hT in
theorem rR.retok {i:Nat}{u:Ty}{z:u.den}{toks nt:pU}{p:Pl}(hb:qO H i=some (.cells u z toks)) (hp:g.J i=some p)
  (U: ∀cs,Rd g w u z cs->w.rangeAt p.1 p.2 cs->HS g u z cs nt):rR g w H ⟨[],(.any,none),[(i,.cells u z (r7 nt toks))],[]⟩ g w undef:=by
 obtain⟨p',cs,F,R,E,I,K,G⟩:=hH.blk i _ hb;rw[hp] at F;obtain rfl:=aFE F;have get: ∀j blk,j∈qQ [(i,qJ.cells u z (r7 nt toks))]->qO (r7 [(i,qJ.cells u z (r7 nt toks))] H) j=some blk->j=i/\blk= .cells u z (r7 nt toks):=by
  intro j blk hi D;simp only[qQ,aFR] at hi;subst hi;simp only[r7,qO,aHb,aFy] at D;exact⟨rfl,D.symm⟩
 have perm: ∀j blk b o,j∈qQ [(i,qJ.cells u z (r7 nt toks))]->qO (r7 [(i,qJ.cells u z (r7 nt toks))] H) j=some blk->sH g j blk b o->w.heap.size<=b\/sY g H (qQ [(i,qJ.cells u z (r7 nt toks))]) b o:=by
  intro j blk b o hi D ho;obtain⟨rfl,rfl⟩:=get j blk hi D;exact .inr ⟨j,_,hi,hb,ho⟩
 have le:Le g w g w:=⟨fun _ _ h=>h,fun _ _ _=>rfl,fun _ _ h=>h,fun _ _ _ h=>h⟩;have fr:Fr (sY g H (qQ [(i,qJ.cells u z (r7 nt toks))])) w w g.S g.S:=⟨rfl,rfl,rfl,aFW _,fun _ _ _=>rfl,fun _ _ _ _=>⟨rfl,rfl⟩,fun _ _ h=> .inl h,fun _ _ h=> .inl h⟩;refine⟨le,⟨trivial,trivial⟩,hH.upd le fr perm (fun _ _=>⟨rfl,rfl⟩) (fun j blk hi D=>?_) (fun i j bi bj b o hi V M Q O _ _=>M ((get i bi hi Q).1.trans (get j bj V O).1.symm)) (fun b o h=>hH.sl b o h),fr,perm,fun _ _=>⟨rfl,rfl⟩,fun j u' y' us h=>?_⟩
 .obtain⟨rfl,rfl⟩:=get j blk hi D;refine⟨p,cs,hp,R,E,I,K,fun q kk hm=>?_⟩;rcases(HT.1 hm) with hm|hm
  .exact U cs R E q kk hm
  exact G q kk hm
 simp only[r7,qO] at h;split at h
 .rename_i e1;subst e1;simp only[aFy,qJ.cells.injEq] at h;obtain⟨rfl,_⟩:=h;exact .inl ⟨z,toks,hb⟩
 exact .inl ⟨y',us,h⟩
omit hT hH in
theorem a42 {g:Gh}{t a b:Ty}{y:t.den}{v:q9}{k:pY}(h:k.isSome=true) (j:t= .pair a b) (z:DW g t y v k): ∃m,k=some m/\yH m t 0 v.cells.toList:=by
 subst j;cases k with
 |none=>cases h
 |some k=>exact⟨k,rfl,z⟩
omit hT hH in
theorem a43 {base i off:Nat}{b:Option qJ}{ls:List (Nat×TypeId×Nat)}{t:Ty}{y:t.den}{k:pY}{e:qY}(h:HK base i off b ls t y k=some e):
  (∃(s:Ty) (x:s.den) (toks:pU) (z:s.den),b=some (.cells s x toks)/\sQ t y s x off=some z/\k.isSome=true/\(∃a c,t= .pair a c)/\∃m,k=some m/\G2 t (CT m ls)=true/\
   e=⟨[],(.any,none),(i,.cells s z (r7 (OR off (CS (CT m ls) base)) (tK toks off t.cells)))::r7 (EN (CT m ls) base) [(i,.cells s z (tK toks off t.cells))],[i]⟩)\/VM t y k i off b=some e:=by
 unfold HK at h;split at h
 .rename_i q r a c y' k';cases D:G2 (.pair a c) (CT k' (q::r)) with
  |false=>rw[D] at h;unfold VN at h;split at h<;>first|cases h|(rename_i E;cases E)
  |true=>
   rw[D] at h;unfold VN at h;split at h
   .rename_i s x toks _;cases j:sQ (.pair a c) y' s x off with
    |none=>rw[j] at h;cases h
    |some z=>
     rw[j] at h;exact .inl ⟨s,x,toks,z,rfl,j,rfl,⟨a,c,rfl⟩,_,rfl,D,(aFE h).symm⟩
   cases h
 exact .inr h
omit hT hH in
theorem Ms {i off k n el:Nat}{u v:Ty}{x:v.den}{ts:pU}{ls:List (Nat×TypeId×Nat)}{y:Option qY}{e:qY}(h:dz H i off k n el u v x ts ls y=some e):y=some e\/dw i (yX el u (some (k,n)) v x off)=some e\/RA i off k n u v x (tK ts off 1) (qO H k)=some e:=by
 cases y with
 |some r=>exact .inl h
 |none=>cases ls with
  |nil=>exact .inr (.inl h)
  |cons q r=>exact .inr (.inr h)
omit hT hH in
theorem a44 {v:Ty}{e:Nat}{u:Ty}{y:pX}: ∀{t:Ty}{x z:t.den}{o q:Nat}{l:(Ty.list v).den},sQ (.rl e u) y t x o=some z->rE (.list v) t x q=some l->q≠o:=by
 intro t
 induction t with
 |pair a b iha ihb=>
  intro x z o q l h g;have keyh:(if o<a.cells then(sQ (.rl e u) y a x.1 o).map (fun q=>(q,x.2)) else(sQ (.rl e u) y b x.2 (o-a.cells)).map (fun q=>(x.1,q)))=some z:=by
   cases o with
   |zero=>
    unfold sQ at h;rw[aG3 (by intro e;cases e)] at h;simpa using h
   |succ o=>simpa[sQ] using h
  have keyg:(if q<a.cells then rE (.list v) a x.1 q else rE (.list v) b x.2 (q-a.cells))=some l:=by
   cases q with
   |zero=>
    unfold rE at g;rw[aG3 (by intro e;cases e)] at g;simpa using g
   |succ q=>simpa[rE] using g
  intro D;subst D;by_cases hq:q<a.cells
  .rw[aFz hq] at keyh keyg;obtain⟨z',j,_⟩:=aFQ.1 keyh;exact iha j keyg rfl
  .rw[aFA hq] at keyh keyg;obtain⟨z',j,_⟩:=aFQ.1 keyh;exact ihb j keyg rfl
 |rl e' u'=>
  intro x z o q l h g D;cases q with
  |zero=>
   unfold rE at g;split at g
   .rename_i e1;cases e1
   .cases g
  |succ q=>simp [rE] at g
 |_=>
  intro x z o q l h g D;cases o with
  |zero=>
   unfold sQ at h;split at h
   .rename_i e1;cases e1
   .cases h
  |succ o=>simp [sQ] at h
omit hT hH in
theorem Mt {n:Nat}: ∀{l:List (Nat×qJ)},VP n l=true->∀j,j∈qQ l->j<n
 |[],_,j,h=>by cases h
 |(i,b)::r,h,j,z=>by
  simp only[VP] at h;split at h
  .simp only[qQ,aFN] at z;rcases z with rfl|z
   .assumption
   exact Mt h j z
  cases h
omit hT in
theorem Mu {v:Ty}{t:Ty}: ∀{R:List (Nat×Nat×Ty)}{i:Nat}{x z:t.den}{q:Nat}{l:(Ty.list v).den},C5 t i R (some x)=some z->rE (.list v) t x q=some l->rE (.list v) t z q=some l
 |[],i,x,z,q,l,h,g=>by simp only[C5,aFy] at h;exact h▸g
 |(o,e,u)::r,i,x,z,q,l,h,g=>by
  simp only[C5] at h;cases j:sQ (.rl e u) (some (i,0)) t x o with
  |none=>rw[j] at h;cases r<;>simp [C5] at h
  |some x'=>
   rw[j] at h;have E:=a44 j g;exact Mu h (X0 hH j g (fun⟨F,D⟩=>by simp only[Ty.cells] at D;omega))
omit hT in
theorem rR.reread {i:Nat}{u:Ty}{z z2:u.den}{toks0 toks:pU}{p:Pl}(hb:qO H i=some (.cells u z toks0)) (hp:g.J i=some p) (G: ∀x∈toks,x∈toks0)
  (U: ∀cs,Rd g w u z cs->w.rangeAt p.1 p.2 cs->Rd g w u z2 cs) (hl: ∀(v:Ty) q (l:(Ty.list v).den),rE (.list v) u z q=some l->rE (.list v) u z2 q=some l):rR g w H ⟨[],(.any,none),[(i,.cells u z2 toks)],[]⟩ g w undef:=by
 obtain⟨p',cs,F,X,E,K,M,I⟩:=hH.blk i _ hb;rw[hp] at F;obtain rfl:=aFE F;have get: ∀j blk,j∈qQ [(i,qJ.cells u z2 toks)]->qO (r7 [(i,qJ.cells u z2 toks)] H) j=some blk->j=i/\blk= .cells u z2 toks:=by
  intro j blk hi D;simp only[qQ,aFR] at hi;subst hi;simp only[r7,qO,aHb,aFy] at D;exact⟨rfl,D.symm⟩
 have perm: ∀j blk b o,j∈qQ [(i,qJ.cells u z2 toks)]->qO (r7 [(i,qJ.cells u z2 toks)] H) j=some blk->sH g j blk b o->w.heap.size<=b\/sY g H (qQ [(i,qJ.cells u z2 toks)]) b o:=by
  intro j blk b o hi D ho;obtain⟨rfl,rfl⟩:=get j blk hi D;exact .inr ⟨j,_,hi,hb,ho⟩
 have le:Le g w g w:=⟨fun _ _ h=>h,fun _ _ _=>rfl,fun _ _ h=>h,fun _ _ _ h=>h⟩;have fr:Fr (sY g H (qQ [(i,qJ.cells u z2 toks)])) w w g.S g.S:=⟨rfl,rfl,rfl,aFW _,fun _ _ _=>rfl,fun _ _ _ _=>⟨rfl,rfl⟩,fun _ _ h=> .inl h,fun _ _ h=> .inl h⟩;refine⟨le,⟨trivial,trivial⟩,hH.upd le fr perm (fun _ _=>⟨rfl,rfl⟩) (fun j blk hi D=>?_) (fun i j bi bj b o hi V O R Q _ _=>O ((get i bi hi R).1.trans (get j bj V Q).1.symm)) (fun b o h=>hH.sl b o h),fr,perm,fun _ _=>⟨rfl,rfl⟩,fun j u' y' us h=>?_⟩
 .obtain⟨rfl,rfl⟩:=get j blk hi D;refine⟨p,cs,hp,U cs X E,E,K,M,fun q kk hm=>?_⟩;obtain⟨v,l,vv,Z,Y,h3⟩:=I q kk (G _ hm);exact⟨v,l,vv,hl v q l Z,Y,h3⟩
 simp only[r7,qO] at h;split at h
 .rename_i e1;subst e1;simp only[aFy,qJ.cells.injEq] at h;obtain⟨rfl,_⟩:=h;exact .inl ⟨z,toks0,hb⟩
 exact .inl ⟨y',us,h⟩
omit hT in
theorem a47 {base:Nat}{e0 e:qY}(hr:R9 base (some e0)=some e) {w':q8}{g1:Gh}{i:Nat}{v:Ty}{z:v.den}{ts:pU}{U:List (Nat×qJ)}(R:e0.upd=(i,.cells v z ts)::U) (Q:e0.side=[]) (hl:e0.slot=(.any,none)) (h0:rR g w H e0 g1 w' undef) (hf:yJ g base e):
  e.side=[]/\∃g',rR g w H e g' w' undef:=by
 obtain⟨sd,s,up,rd⟩:=e0;simp only at R Q hl;subst R Q hl;simp only[R9] at hr;split at hr
 case isFalse=>cases hr
 rename_i M;have E:=Mt M;cases G:C5 v base (AD v z 0) (some z) with
 |none=>rw[G] at hr;cases hr
 |some z2=>
  rw[G] at hr;simp only[VO,aFy] at hr;subst hr;refine⟨rfl,?_⟩;obtain⟨p,cs,hp,V,Z,_,_,_⟩:=h0.heap.blk i (.cells v z ts) (by simp [r7,qO]);have D: ∀j,base<=j->j<base+(AD v z 0).length->∀n,g1.cur j n=none:=by
   intro j K X n;have I:j∉qQ ((i,qJ.cells v z ts)::U):=fun h=>by have:=E j h;omega
   rw[(h0.gho j I).2];exact(hf j (by simp only[qQ,aFN];right;rw[CY];exact .inl ((X1 _ base j).2 ⟨K,X⟩)) K).2 n
  obtain⟨g2,m1,m2,m3,m4⟩:=ia (AD v z 0) base g1 _ h0.heap D;have O:qO (r7 (G3 (AD v z 0) base) (r7 ((i,qJ.cells v z ts)::U) H)) i=some (.cells v z ts):=by
   rw[AU (fun h=>by
    have K:=(X1 _ base i).1 h;have X:=E i (by simp [qQ]);omega)]
   simp [r7,qO]
  have cR:=fun cs (V:Rd g2 w' v z cs) q hq=>Ml (o:=0) V q hq;have e3:=rR.reread (z2:=z2) (p:=p) m1.heap O (by rw[m2];exact hp) (fun _ h=>h) (fun cs F _=>ie G F (fun q hq=>by simpa using(cR cs F q hq).2) (fun j I=>m3 j I)) (fun v' q l Y=>Mu hH G Y);have e4:=rR.trans (side:=[]) (rds:=[]) h0 m1;have e5:=rR.trans (side:=[]) (rds:=[i]) e4 (e3.congrH (H':=r7 (r7 (G3 (AD v z 0) base) ((i,qJ.cells v z ts)::U)) H) (by simp only[MG]));exact⟨_,e5⟩
omit hT hH in
theorem a48 {i:Nat}{d:DV}{r3 r4:Nat×Nat}{sd:List Prop}{y:Nat×Nat×(Nat×Nat)×(Nat×Nat)}(h:VS i d r3 r4=some (sd,y)) (E: ∀p∈sd,p) {v:q9}(Q:zJ g w (.apd d) v):G8 g w y [v]:=by
 obtain⟨b,u,rfl,G,F,O⟩:=Q;unfold VS at h;split at h
 .rename_i j o;obtain⟨p,hp,rfl⟩:=xW O;unfold Kg at h;split at h
  .rename_i I;subst I;split at h
   .rename_i ho;subst ho;cases h;exact .inr ⟨pQ,b,_,rfl,G,F,fun _=>⟨p,hp,rfl⟩,fun q=>absurd q pQ,fun q=>absurd q pQ,fun q=>absurd q pQ⟩
   split at h
   .rename_i ho;subst ho;cases h;exact .inr ⟨pQ,b,_,rfl,G,F,fun q=>absurd q pQ,fun _=>⟨p,hp,rfl⟩,fun q=>absurd q pQ,fun q=>absurd q pQ⟩
   cases h
  cases h
 .rename_i k n c ix o;obtain⟨bb,cap,z,h0,R,rfl⟩:=O;unfold Kh at h;split at h
  .rename_i M;subst M;split at h
   .rename_i ho;subst ho;split at h
    .rename_i D;cases h;have e1:=E _ (aFT);have e2:=E _ (aFK _ aFT);rw[D,e1] at z;refine .inr ⟨pQ,b,_,rfl,G,F,fun q=>absurd q pQ,fun q=>absurd q pQ,fun _=>⟨bb,cap,by rw[D];exact z,pP,by congr 1;omega⟩,fun q=>absurd q pQ⟩
    cases h
   cases h
  split at h
  .rename_i K;subst K;split at h
   .rename_i ho;subst ho;split at h
    .rename_i D;cases h;have e1:=E _ (aFT);have e2:=E _ (aFK _ aFT);rw[D,e1] at z;refine .inr ⟨pQ,b,_,rfl,G,F,fun q=>absurd q pQ,fun q=>absurd q pQ,fun q=>absurd q pQ,fun _=>⟨bb,cap,by rw[D];exact z,pP,by congr 1;omega⟩⟩
    cases h
   cases h
  cases h
 cases h
theorem a49 {t:TypeId}{x y:Operand}(ho:o.op= .store t x y) {sx sy:qK}(hx:rS g w sx (a.eval x)) (hy:rS g w sy (a.eval y)) {base:Nat}{e:qY}(hr:VU base H (rY T t) sx sy=some e) (hs: ∀p∈e.side,p) (hf:yJ g base e):rN P o a g w H e:=by
 generalize hst:rY T t=ot at hr;unfold VU at hr;split at hr
 .rename_i ti i off k kk n k2;generalize hb:qO H i=ob at hr;unfold OS at hr;split at hr
  .rename_i u el _ _ _ v x' toks;rcases Ms hr with hq|hq|hq
   case inr.inr hq=>
    clear hr;generalize hk:qO H kk=ok at hq;unfold RA at hq;split at hq
    case h_2=>cases hq
    rename_i el2 t2 l2 m2;split at hq
    case isFalse=>cases hq
    rename_i q0;subst q0;generalize F:sQ (.list t2) l2 v x' off=oz at hq;cases oz with
    |none=>cases hq
    |some z'=>
     simp only[VQ,aFy] at hq;subst hq;have hL:n=m2:=hs _ (aFR.2 rfl);subst hL;have Q:=t7 hT hst;obtain⟨p,hp,O⟩:=xW hx.1;obtain⟨h1,M⟩:=hy.1;obtain⟨g1,k1,k2,k3,k4⟩:=Lz hH hk;have vl:i≠kk:=fun e1=>by rw[e1,hk] at hb;cases hb
     have vy:qO (r7 [(kk,qJ.grow el2 t2.cells n)] H) i=some (.cells v x' toks):=by
      simp only[r7,qO];rw[aFA (Ne.symm vl)];exact hb
     have Y:Rd g1 w (.list t2) l2 [a.eval y]:=k4 _ ⟨_,by rw[k2];exact h1,rfl,M⟩;obtain⟨I,G⟩:=rR.store (side:=[]) (rds:=[i]) (k:=none) (v:=a.eval y) k3.heap vy (by rw[k1];exact hp) F Y trivial (fun _ _ _=>rfl) (fun _=>rfl);have X:(a.eval y).cells= #[a.eval y]:=by rcases M with⟨M,_⟩ |⟨_,_,M,_⟩<;>(rw[M];rfl)
     refine rN.skip (w':=w.setCells p.1 (p.2+off) [a.eval y]) ?_ (rR.trans (side:=[n=n]) (rds:=[i,kk]) k3 I);obtain⟨inf,hi,R,_⟩:=ES Q;have E:=run_storeCells_cells (P:=P) p.1 (p.2+off) [a.eval y] 0 w (fun j Z=>by simpa using(G j Z).1) (fun j Z=>by simpa using(G j Z).2) (fun v O=>AS Y v O);simp only[aGK] at E;have V:(a.eval y).cells.size=inf.size:=by rw[R,X];rfl
     have hh:(a.eval y).cells.toList=[a.eval y]:=by rw[X]
     simp only[execOp,ho,O,Instr.storeAt,Instr.sureAddr,storeVar,aFM,aF0,aFH,sizeOf,typeInfo,aGx,hi,V,ne_eq,not_true_eq_false,aHG,hh,E]
   case inr.inl hq=>
    replace hr:=hq;generalize F:yX el u (some (kk,n)) v x' off=oz at hr;cases oz with
    |none=>cases hr
    |some z'=>
     cases hr;have Q:=t7 hT hst;obtain⟨p,hp,O⟩:=xW hx.1;obtain⟨h1,M⟩:=hy.1;have Y:Rd g w (.rl el u) (some (kk,n)) [a.eval y]:=⟨_,h1,rfl,M⟩;obtain⟨I,G⟩:=AH.openS (side:=[]) (rds:=[1000000000,i]) hH hb hp F Y rfl rfl;have X:(a.eval y).cells= #[a.eval y]:=by rcases M with⟨M,_⟩ |⟨_,_,M,_⟩<;>(rw[M];rfl)
     refine rN.skipW (w':=w.setCells p.1 (p.2+off) [a.eval y]) ?_ I;obtain⟨inf,hi,R,_⟩:=ES Q;have E:=run_storeCells_cells (P:=P) p.1 (p.2+off) [a.eval y] 0 w (fun j Z=>by simpa using(G j Z).1) (fun j Z=>by simpa using(G j Z).2) (fun v O=>AS Y v O);simp only[aGK] at E;have V:(a.eval y).cells.size=inf.size:=by rw[R,X];rfl
     have hh:(a.eval y).cells.toList=[a.eval y]:=by rw[X]
     simp only[execOp,ho,O,Instr.storeAt,Instr.sureAddr,storeVar,aFM,aF0,aFH,sizeOf,typeInfo,aGx,hi,V,ne_eq,not_true_eq_false,aHG,hh,E]
   replace hr:=hq;generalize F:sQ (.rl el u) (some (kk,n)) v x' off=oz at hr;cases oz with
   |none=>cases hr
   |some z'=>
    cases hr;have Q:=t7 hT hst;obtain⟨p,hp,O⟩:=xW hx.1;obtain⟨h1,M⟩:=hy.1;have Y:Rd g w (.rl el u) (some (kk,n)) [a.eval y]:=⟨_,h1,rfl,M⟩;obtain⟨I,G⟩:=rR.store (side:=[]) (rds:=[i]) (k:=none) (v:=a.eval y) hH hb hp F Y trivial (fun _ _ _=>rfl) (fun _=>rfl);have X:(a.eval y).cells= #[a.eval y]:=by rcases M with⟨M,_⟩ |⟨_,_,M,_⟩<;>(rw[M];rfl)
    refine rN.skip (w':=w.setCells p.1 (p.2+off) [a.eval y]) ?_ I;obtain⟨inf,hi,R,_⟩:=ES Q;have E:=run_storeCells_cells (P:=P) p.1 (p.2+off) [a.eval y] 0 w (fun j Z=>by simpa using(G j Z).1) (fun j Z=>by simpa using(G j Z).2) (fun v O=>AS Y v O);simp only[aGK] at E;have V:(a.eval y).cells.size=inf.size:=by rw[R,X];rfl
    have hh:(a.eval y).cells.toList=[a.eval y]:=by rw[X]
    simp only[execOp,ho,O,Instr.storeAt,Instr.sureAddr,storeVar,aFM,aF0,aFH,sizeOf,typeInfo,aGx,hi,V,ne_eq,not_true_eq_false,aHG,hh,E]
  cases hr
 .rename_i ti i off _ d _;generalize hb:qO H i=ob at hr;generalize k5:ti.ty=ty0 at hr;unfold dr at hr;split at hr
  case h_2=>cases hr
  rename_i v x' toks;generalize ql:VS i d (VR (CQ v x' 8)) (VR (CQ v x' 11))=od at hr;cases od with
  |none=>cases hr
  |some q=>
   obtain⟨sd,yy⟩:=q;simp only[dq] at hr;generalize F:sQ .ap yy v x' off=oz at hr;cases oz with
   |none=>cases hr
   |some z'=>
    simp only[dp,aFy] at hr;subst hr;have Q:=t7 hT hst;obtain⟨p,hp,O⟩:=xW hx.1;have Y:Rd g w .ap yy [a.eval y]:=a48 ql hs hy.1;obtain⟨I,G⟩:=rR.store (side:=sd) (rds:=[i]) (k:=none) (v:=a.eval y) hH hb hp F Y trivial (fun _ _ _=>rfl) (fun _=>rfl);have X:(a.eval y).cells= #[a.eval y]:=by
     obtain⟨b,u,e1,_⟩:=hy.1;rw[e1];rfl
    refine rN.skip (w':=w.setCells p.1 (p.2+off) [a.eval y]) ?_ I;obtain⟨inf,hi,R,_⟩:=ES Q;have E:=run_storeCells_cells (P:=P) p.1 (p.2+off) [a.eval y] 0 w (fun j Z=>by simpa using(G j Z).1) (fun j Z=>by simpa using(G j Z).2) (fun v O=>AS Y v O);simp only[aGK] at E;have V:(a.eval y).cells.size=inf.size:=by rw[R,X,k5];rfl
    have hh:(a.eval y).cells.toList=[a.eval y]:=by rw[X]
    simp only[execOp,ho,O,Instr.storeAt,Instr.sureAddr,storeVar,aFM,aF0,aFH,sizeOf,typeInfo,aGx,hi,V,ne_eq,not_true_eq_false,aHG,hh,E]
 .rename_i ti k n c i o' _ u z kk;split at hr
  .rename_i hu;subst hu;generalize hk:qO H k=ob at hr;unfold VT at hr;split at hr
   .rename_i e' t' l m;split at hr
    .rename_i hc;generalize F:sQ ti.ty z t' (qR t' l i) o'=oz at hr;cases oz with
     |none=>cases hr
     |some z'=>
      cases hr;have hL:=hs _ (aFR.2 rfl);obtain⟨b,cap,xs,c1,c2,c3,O,hA,hV,hF,hl,hi,h0,e1,e2,e3,e4⟩:=Mc hT hH hx.1 hk hL hc;subst hL;have Q:=t7 hT hst;obtain⟨hK,hX⟩:=ii hT hH hy;have Y:=G9 hK;have kF:=sZ Y;obtain⟨d1,d2,d3,f1,f2,f3,f4⟩:=RN Y e4 F;obtain⟨_,_,_,_,ko,v4,_,kn,hC⟩: ∃(_:True) (_:True) (v0:q9) (xs0:pW),g.cur k n=some v0/\w.ownsRow 0 e' t'.cells v0 n xs0/\uD (Rd g w t') t'.cells l xs0/\(∀m,n<m->g.cur k m=none)/\∀b,v0.ownBlock=some b->∀o,¬g.S b o:=by
       obtain⟨_,v0,xs0,q1,q2,q3,q4,q5⟩:=hH.blk k _ hk;exact⟨trivial,trivial,v0,xs0,q1,q2,q3,q4,q5⟩
      rw[hA] at ko;obtain rfl:=aFE ko;rcases hV.2 with⟨h5,_⟩ |⟨q,cap',cur,h5,_,hg,va,hcm,vv,hY⟩
      .cases h5
      simp only[aHg,aFy,Addr.mk.injEq,and_true,true_and] at h5;obtain⟨rfl,rfl⟩:=h5;have qn:=hV.1;have k7:=sZ f4;simp only[aFD] at k7;have qm:c2.length=t'.cells:=by rw[e3,hc]
      have hd:d1.length+d2.length+d3.length=t'.cells:=by rw[<-qm,f1];simp only[aFD]
      have qs:c1.length+c2.length+c3.length=n*t'.cells:=by rw[<-qn,e1];simp only[aFD]
      have hB:cur.toList=(c1++(d1++d2++d3)++c3)++cur.toList.drop (n*t'.cells):=by
       conv=>lhs;rw[<-aGZ (n*t'.cells) cur.toList,hY,e1,f1]
      obtain⟨D,hD⟩: ∃D,D=cur.toList.drop (n*t'.cells):=⟨_,rfl⟩;rw[<-hD] at hB;have hI:cur.toList=(c1++d1)++(d2++(d3++c3++D)):=by rw[hB];simp only[aFO]
      have hU:i.toNat*c+o'=(c1++d1).length:=by rw[aFD,e2,f2]
      have k0:(a.eval y).cells.toList.length=d2.length:=by rw[kF,f3]
      have k9:i.toNat*c+o'+0+(a.eval y).cells.toList.length<=cur.size:=by
       have:cur.size=cur.toList.length:=by simp
       rw[this,hI,aGK,hU,k0];simp only[aFD];omega
      have hN:=run_storeCells_at P b (i.toNat*c+o') e' (a.eval y).cells.toList 0 cur w hg k9 (fun v O=>AS Y v O);have hz:cur.toList.take (i.toNat*c+o'+0)++(a.eval y).cells.toList++cur.toList.drop (i.toNat*c+o'+0+(a.eval y).cells.toList.length)=(c1++(d1++(a.eval y).cells.toList++d3)++c3)++D:=by
       rw[aGK,hU,k0,hI,aHa,List.drop_append,List.drop_of_length_le pP,List.nil_append,aGo,List.drop_left];simp only[aFO]
      rw[hz] at hN;obtain⟨inf,k8,R,_⟩:=ES Q;have V:(a.eval y).cells.size=inf.size:=by rw[R,<-kF,aGv]
      have hJ:((c1++(d1++(a.eval y).cells.toList++d3)++c3)++D).length=cur.size:=by
       have:cur.size=cur.toList.length:=by simp
       rw[this,hB];simp only[aFD];omega
      have hM:(c1++(d1++(a.eval y).cells.toList++d3)++c3).length=n*t'.cells:=by
       rw[<-qs];simp only[aFD];rw[f1];simp only[aFD];omega
      have kl:(w.setRow b ((c1++(d1++(a.eval y).cells.toList++d3)++c3)++D).toArray).ownsRow 0 e' t'.cells (.slice (some ⟨b,0,none⟩) n cap) n (c1++(d1++(a.eval y).cells.toList++d3)++c3):=
       ⟨hM,.inr ⟨b,cap,_,rfl,aGu _,aHK w b cur _ e' _ hg,va,hcm,by rw[aGy,hJ,vv],by rw[<-hM];exact aHa⟩⟩
      have v2:uD (Rd g w t') t'.cells (l.set i.toNat z') (c1++(d1++(a.eval y).cells.toList++d3)++c3):=by
       obtain⟨q1,q2,q3,r1,r2,r3,r4⟩:=WZ hF f4 (sZ f4) hi;have s1:q1=c1/\q2=c2/\q3=c3:=by
        have h6:q1++(q2++q3)=c1++(c2++c3):=by rw[<-aFO,<-r1,e1,aFO]
        obtain⟨h7,h8⟩:=aHh h6 (by rw[r2,e2,hc]);obtain⟨h9,v3⟩:=aHh h8 (by rw[r3,e3,hc]);exact⟨h7,h9,v3⟩
       obtain⟨rfl,rfl,rfl⟩:=s1;exact r4
      have hG: ∀o,sY g H [k] b o:=fun o=>⟨k,_,by simp,hk,_,hA,rfl⟩;refine rN.skip (w':=w.setRow b ((c1++(d1++(a.eval y).cells.toList++d3)++c3)++D).toArray) ?_ (rR.row (v:= .slice (some ⟨b,0,none⟩) n cap) hH (by rw[List.length_set];exact hl) kl v2 kn (fun u hu=>by rw[hA] at hu;exact(aFE hu).symm)
       (.inr ⟨some b,⟨rfl,rfl,rfl,by simp,fun q _ hq=>aHr w b q _ (fun e=>hq (by rw[e]))⟩,fun b' K o=>by cases K;exact hG o⟩) (fun b' o hS=>?_) hC (fun b' K=>by cases K;exact .inr hG) ⟨trivial,trivial⟩)
      .simp only[execOp,ho,O,Instr.storeAt,Instr.sureAddr,storeVar,aFM,aF0,aFH,sizeOf,typeInfo,aGx,k8,V,ne_eq,not_true_eq_false,aHG,hN]
      have q7:b'≠b:=fun e=>hC b rfl o (e▸hS);exact aFY (a:=⟨b',o,none⟩) (aHr w b b' _ q7)
    cases hr
   cases hr
  cases hr
 .rename_i ti i off k u z kk;split at hr
  .rename_i hu;subst hu;generalize hb:qO H i=ob at hr;have Q:=t7 hT hst;obtain⟨p,hp,O⟩:=xW hx.1;obtain⟨hK,hX⟩:=ii hT hH hy;have Y:=G9 hK;have k6:ti.ty.isRow=false->(a.eval y).cells.toList=[a.eval y]:=fun hz=>by
    have h1:=AS (xV hz hK) _ (aFR.2 rfl);cases h:a.eval y<;>first|rfl|(rw[h] at h1;simp [Value.oneCell'] at h1)
   have hQ:w.there p.1 (p.2+off) (a.eval y).cells.toList.length->(execOp a.eval o).run P w= .ok .skip (w.setCells p.1 (p.2+off) (a.eval y).cells.toList):=by
    intro G;obtain⟨inf,hi,R,_⟩:=ES Q;have hW:=sZ Y;have E:=run_storeCells_cells (P:=P) p.1 (p.2+off) (a.eval y).cells.toList 0 w (fun j Z=>by simpa using(G j Z).1) (fun j Z=>by simpa using(G j Z).2) (fun v O=>AS Y v O);simp only[aGK] at E;have V:(a.eval y).cells.size=inf.size:=by rw[R,<-hW,aGv]
    simp only[execOp,ho,O,Instr.storeAt,Instr.sureAddr,storeVar,aFM,aF0,aFH,sizeOf,typeInfo,aGx,hi,V,ne_eq,not_true_eq_false,aHG,E]
   have fin: ∀{e0:qY}{g1:Gh}{w':q8}{j:Nat}{v:Ty}{zz:v.den}{ts:pU}{U:List (Nat×qJ)},HK base i off ob ti.ls ti.ty z kk=some e0->e0.upd=(j,.cells v zz ts)::U->e0.side=[]->e0.slot=(.any,none)->(execOp a.eval o).run P w= .ok .skip w'->rR g w H e0 g1 w' undef->rN P o a g w H e:=by
    intro e0 g1 w' j v zz ts U h0 h1 M h3 h5 h6;rw[h0] at hr;cases K:LY ti.ty with
    |false=>
     rw[K] at hr;cases hr;exact rN.skip h5 h6
    |true=>
     rw[K] at hr;obtain⟨_,g',h7⟩:=a47 hH hr h1 M h3 h6 (fun q hq kB=>hf q hq pP);exact rN.skip h5 h7
   obtain⟨e0,ht⟩: ∃e0,HK base i off ob ti.ls ti.ty z kk=some e0:=by
    cases h:HK base i off ob ti.ls ti.ty z kk with
    |some e0=>exact⟨e0,rfl⟩
    |none=>
     rw[h] at hr;cases K:LY ti.ty<;>rw[K] at hr<;>cases hr
   have vt: ∀q,q∈qQ e0.upd->q∈qQ e.upd:=by
    rw[ht] at hr;cases K:LY ti.ty with
    |false=>rw[K] at hr;cases hr;exact fun _ h=>h
    |true=>
     rw[K] at hr;obtain⟨sd,s,up,rd⟩:=e0;simp only[dn] at hr;unfold R9 at hr;split at hr
     .rename_i heq;cases heq;split at hr
      case isFalse=>cases hr
      generalize v5:C5 _ _ _ _=ozz at hr;cases ozz with
      |none=>cases hr
      |some z2=>
       simp only[VO,aFy] at hr;subst hr;intro q hq;simp only[qQ,aFN];right;rw[CY];exact .inr hq
     cases hr
   replace hf:yJ g base e0:=fun q hq kB=>hf q (vt q hq) kB;rcases a43 ht with⟨s,x',toks,z',K,F,kd,⟨pa,pb,hE⟩,mk_,vb,ky,rfl⟩ |ha
   .rw[K] at hb;have hn:yH mk_ ti.ty 0 (a.eval y).cells.toList:=by
     obtain⟨m',e1,e2⟩:=a42 kd hE hX;rw[vb] at e1;obtain rfl:=aFE e1;exact e2
    have kA:=fun q hq=>X2 (k:=mk_) (ls:=ti.ls) (q:=q) hq;generalize CT mk_ ti.ls=lsm at hf ky kA ht;obtain⟨I,G⟩:=rR.store (side:=[]) (rds:=[i]) (k:=none) (v:=undef) hH hb hp F Y trivial (fun _ _ _=>rfl) (fun h=>by rw[hE] at h;cases h);have vs: ∀j,base<=j->j<base+lsm.length->∀n,g.cur j n=none:=fun j h1 M=>(hf j (by
     simp only[qQ,aFN];right;rw[CY];exact .inl ((RU _ base j).2 ⟨h1,M⟩)) h1).2
    obtain⟨g1,k1,k2,k3,k4⟩:=gx lsm base g _ I.heap vs;have e2:=rR.trans (side:=[]) (rds:=[]) I k1;have z1:i<base:=by
     rcases aGN i base with h|h
     .exact h
     have:=(hf i (by simp [qQ]) h).1;rw[hp] at this;cases this
    have vr:i∉qQ (EN lsm base):=fun h=>by
     have:=(RU _ base i).1 h;omega
    have vx:qO (r7 (r7 (EN lsm base) [(i,qJ.cells s z' (tK toks off ti.ty.cells))]) H) i=some (.cells s z' (tK toks off ti.ty.cells)):=by
     rw[MG,AU vr];simp [r7,qO]
    have v9:=sZ Y;have e3:=rR.retok (p:=p) (nt:=OR off (CS lsm base)) e2.heap vx (by rw[k2];exact hp) (fun cs v1 q6 o k hm=>by
     obtain⟨q,rfl,hq⟩:=Mo hm;obtain⟨en,he,rfl⟩:=gy hq;obtain⟨u,h1,M⟩:=Lu hn Y (gz ky en he) (by have:=kA en he;omega);have kx:en.1<(a.eval y).cells.toList.length:=(aFP.1 M).1;have h3:=Mq F h1 pP;refine⟨u,[],.slice none 0 0,h3,?_,k3 _ _ hq⟩;have hW:=sZ v1;have z0:=Mr h3;have hc:cs[off+en.1]? =some cs[off+en.1]:=aFG pP;have ha:=q6 _ _ hc;have kt:=aG7 p.1 (a.eval y).cells.toList (p.2+off) w (fun j Z=>(G j Z).1) en.1 kx;rw[aGj] at kt;rw[kt] at ha;rw[hc,<-ha,<-M,aFG kx])
    exact fin (w':=w.setCells p.1 (p.2+off) (a.eval y).cells.toList) ht rfl rfl rfl (hQ G) (rR.trans (side:=[]) (rds:=[i]) e2 e3)
   cases ob with
   |none=>cases ha
   |some bl=>
   cases bl with
   |cells s q toks=>
    simp only[VM] at ha;generalize F:sQ ti.ty z s q off=oz at ha;cases oz with
    |none=>cases ha
    |some z'=>
     simp only[OQ,aFy] at ha;subst ha;obtain⟨I,G⟩:=rR.store (side:=[]) (rds:=[i]) hH hb hp F Y (a41 hX) (fun a b e=>by rw[e];rfl) k6;exact fin (w':=w.setCells p.1 (p.2+off) (a.eval y).cells.toList) ht rfl rfl rfl (hQ G) I
   |_=>cases ha
  cases hr
 cases hr
omit hT in
theorem rR.poke {k:Nat}{e:TypeId}{t:Ty}{l:List t.den}{m:Nat}(hk:qO H k=some (.row e t l m)) {b cap:Nat}(h:g.cur k m=some (.slice (some ⟨b,0,none⟩) m cap)) {i:Int}(h0:0<=i) (h1:i<(m:Int)) {o':Nat}{uT:Ty}{y:uT.den}{z':t.den}(V:sQ uT y t (qR t l i) o'=some z') {u:q9}(hy:Rd g w uT y [u]):
  rR g w H ⟨[],(.any,none),[(k,.row e t (l.set i.toNat z') m)],[]⟩ (g.tok k m (.slice (some ⟨b,0,none⟩) m cap)) (w.setCells b (i.toNat*t.cells+o') [u]) undef:=by
 obtain⟨hl,v0,xs,U,I,hF,Q,z⟩:=hH.blk k _ hk;rw[h] at U;obtain rfl:=aFE U;have hi:i.toNat<l.length:=by rw[hl];omega
 obtain⟨c1,c2,c3,e1,e2,e3,e4⟩:=WX hF (Ly h0 hi);obtain⟨d1,d2,d3,f1,f2,f3,f4⟩:=RN hy e4 V;rcases I.2 with⟨Z,_⟩ |⟨q,cap',cur,Z,_,hg,hj,hcm,hn,M⟩
 .cases Z
 simp only[aHg,aFy,Addr.mk.injEq,and_true,true_and] at Z;obtain⟨rfl,rfl⟩:=Z;have hc:=I.1;have Y:=sZ f4;have ha:=sZ hy;simp only[aFD,aGC] at Y ha;have hd:d1.length+d2.length+d3.length=t.cells:=by rw[<-e3,f1];simp only[aFD]
 have he:c1.length+c2.length+c3.length=m*t.cells:=by rw[<-hc,e1];simp only[aFD]
 have j:cur.toList=(c1++(d1++d2++d3)++c3)++cur.toList.drop (m*t.cells):=by
  conv=>lhs;rw[<-aGZ (m*t.cells) cur.toList,M,e1,f1]
 obtain⟨D,hD⟩: ∃D,D=cur.toList.drop (m*t.cells):=⟨_,rfl⟩;rw[<-hD] at j;obtain⟨x2,rfl⟩: ∃x2,d2=[x2]:=aGS.1 pP;have R:cur.toList=(c1++d1)++(x2::(d3++c3++D)):=by rw[j];simp only[aFO,List.cons_append,List.nil_append]
 have X:i.toNat*t.cells+o'=(c1++d1).length:=by rw[aFD,e2,f2]
 have hw:w.setCells b (i.toNat*t.cells+o') [u]=w.setRow b ((c1++(d1++[u]++d3)++c3)++D).toArray:=by
  show w.setCell ⟨b,i.toNat*t.cells+o',none⟩ u=_;rw[setCell_eq_setRow w b _ cur e (0,0) u hg];congr 1;apply aGL.1;rw[Array.toList_setIfInBounds,R,X,List.set_append_right _ _ (aFW _),aG8,List.set_cons_zero];simp only[aFO,List.cons_append,List.nil_append]
 have F:((c1++(d1++[u]++d3)++c3)++D).length=cur.size:=by
  have:cur.size=cur.toList.length:=by simp
  rw[this,j];simp only[aFD,aGC]
 have G:(c1++(d1++[u]++d3)++c3).length=m*t.cells:=by
  rw[<-he,f1];simp only[aFD,aGC]
 have O:(w.setRow b ((c1++(d1++[u]++d3)++c3)++D).toArray).ownsRow 0 e t.cells (.slice (some ⟨b,0,none⟩) m cap) m (c1++(d1++[u]++d3)++c3):=
  ⟨G,.inr ⟨b,cap,_,rfl,aGu _,aHK w b cur _ e _ hg,hj,hcm,by rw[aGy,F,hn],by rw[<-G];exact aHa⟩⟩
 have hs:uD (Rd g w t) t.cells (l.set i.toNat z') (c1++(d1++[u]++d3)++c3):=by
  obtain⟨q1,q2,q3,r1,r2,r3,r4⟩:=WZ hF f4 (sZ f4) hi;have s1:q1=c1/\q2=c2/\q3=c3:=by
   have h6:q1++(q2++q3)=c1++(c2++c3):=by rw[<-aFO,<-r1,e1,aFO]
   obtain⟨h7,h8⟩:=aHh h6 (by rw[r2,e2]);obtain⟨h9,ht⟩:=aHh h8 (by rw[r3,e3]);exact⟨h7,h9,ht⟩
  obtain⟨rfl,rfl,rfl⟩:=s1;exact r4
 have E: ∀o,sY g H [k] b o:=fun o=>⟨k,_,by simp,hk,_,h,rfl⟩;rw[hw];refine rR.row (v:= .slice (some ⟨b,0,none⟩) m cap) hH (by rw[List.length_set];exact hl) O hs Q (fun u hu=>by rw[h] at hu;exact(aFE hu).symm)
  (.inr ⟨some b,⟨rfl,rfl,rfl,by simp,fun q _ hq=>aHr w b q _ (fun e=>hq (by rw[e]))⟩,fun b' K o=>by cases K;exact E o⟩) (fun b' o hS=>?_) z (fun b' K=>by cases K;exact .inr E) ⟨trivial,trivial⟩
 have hh:b'≠b:=fun e=>z b rfl o (e▸hS);exact aFY (a:=⟨b',o,none⟩) (aHr w b b' _ hh)
omit hT in
theorem rR.below {w1:q8}(h:Below w.heap.size w w1):rR g w H ⟨[],(.any,none),[],[]⟩ g w1 undef:=by
 have le:Le g w g w1:=⟨fun _ _ h=>h,fun b o j=>aFY (a:=⟨b,o,none⟩) (h.block b (hH.sl b o j)),fun _ _ h=>h,fun _ _ _ h=>h⟩;have fr:Fr (sY g H (qQ [])) w w1 g.S g.S:=⟨h.os,h.tape,h.output,h.size,fun b hb _=>h.block b hb,fun b o hb _=>⟨aFY (a:=⟨b,o,none⟩) (h.block b hb),aGn (a:=⟨b,o,none⟩) (h.block b hb)⟩,fun _ _ h=> .inl h,fun b s z=> .inl ((CC (h.block b (CB z))).trans z)⟩;exact⟨le,⟨trivial,trivial⟩,hH.upd le fr (fun _ _ _ _ hi=>(by cases hi)) (fun _ _=>⟨rfl,rfl⟩) (fun _ _ hi=>(by cases hi)) (fun _ _ _ _ _ _ hi=>(by cases hi)) (fun b o j=>aF9 (hH.sl b o j) h.size),fr,fun _ _ _ _ hi=>(by cases hi),fun _ _=>⟨rfl,rfl⟩,fun _ _ y us h=> .inl ⟨y,us,h⟩⟩
theorem Mv {t:Ty}{n:Nat}{ev:Operand->q9}{ρ:Operand->qK}: ∀(ps:List (Nat×Operand)) (l z:List t.den) (cs:pW),uD (Rd g w t) t.cells l cs->l.length=n->(∀q∈ps,rS g w (ρ q.2) (ev q.2))->C0 t n (some l) (uM ρ ps)=some z->
  ∃cs',Instr.fill (fun i=>some (i*t.cells,t.cells)) cs.toArray (ps.map fun q=>(q.1,ev q.2))=some cs'.toArray/\uD (Rd g w t) t.cells z cs'/\z.length=n
 |[],l,z,cs,r,hl,_,h=>by
  simp only[uM,C0,aFy] at h;subst h;exact⟨cs,rfl,r,hl⟩
 |(i,q)::ps,l,z,cs,r,hl,hq,h=>by
  have h0:=hq (i,q) pR;generalize F:ρ q=s at h0;simp only[uM,F] at h;obtain⟨d,k⟩:=s;cases d with
  |val u y=>
   simp only[C0,Ji] at h;by_cases j:u=t/\i<n
   .rw[aHB j] at h;obtain⟨rfl,hi⟩:=j;simp only[uG] at h;have D:=G9 h0.1;obtain⟨c1,c2,c3,rfl,G,h3,h4⟩:=WZ (i:=i) r D (sZ D) pP;obtain⟨cs',k1,k2,k3⟩:=Mv ps (l.set i y) z _ h4 (by simpa using hl) (fun q E=>hq q (by simp [E])) h;refine⟨cs',?_,k2,k3⟩;simp only[aGB];rw[Lt rfl (by have:=sZ D;simpa using this) (c1:=c1) (c2:=c2) (c3:=c3) pR G h3];exact k1
   .rw[aG3 j] at h;cases ps with
    |nil=>simp [uM,C0] at h
    |cons p ps=>simp [uM,C0] at h
  |_=>simp [C0] at h
theorem ij {t:TypeId}{n:Nat}{ps:Array (Nat×Operand)}(ho:o.op= .buildSlice t n ps) {ρ:Operand->qK}(hρ: ∀q∈ps.toList,rS g w (ρ q.2) (a.eval q.2)) {u:Ty}{el:TypeId}{by':Nat}{ar:Bool}{ls:List (Nat×TypeId×Nat)}(hst:rY T t=some ⟨.list u,el,by',ar,ls⟩) {l:List u.den}
  (hb:C0 u n (some (DT u n)) (uM ρ ps.toList)=some l) (V:n<=16777216/\n*u.cells<=16777216):
  ∃cs':pW,uD (Rd g w u) u.cells l cs'/\l.length=n/\(execOp a.eval o).run P w= .ok (.value (.slice (some ⟨w.heap.size,0,none⟩) n n)) (w.alloc (.cells cs'.toArray el)):=by
    obtain⟨U,h3,_⟩:=(t7 hT hst).2;obtain⟨ei,K,O⟩:=aFQ.1 h3;simp only[aF3] at O;obtain⟨cs',k1,k2,k3⟩:=Mv hT hH ps.toList (DT u n) l _ (Mh n) (Mi u n) hρ hb;refine⟨cs',k2,k3,?_⟩;have Q:(yI u).cells=(uI u).toArray:=by
     unfold yI;cases h:u<;>simp [Ty.isRow,uI,Value.cells]
    have F:(ps.map fun(q:Nat×Operand)=>(q.1,a.eval q.2)).toList=ps.toList.map fun q=>(q.1,a.eval q.2):=by simp
    have D:(uI u).length=u.cells:=sZ (EQ g w u);have E: ∀z:Array q9,(n*u.cells≠0->z=(uI u).toArray)->(Array.range (n*u.cells)).map (fun i=>z[i%z.size]!)=(List.flatten (List.replicate n (uI u))).toArray:=by
     intro z R;by_cases h0:n*u.cells=0
     .rw[h0];have:List.flatten (List.replicate n (uI u))=[]:=aF4 (by simp [D,h0]);rw[this];simp
     rw[R h0];have M:0<u.cells:=Nat.pos_of_ne_zero (fun h=>h0 (by rw[h];simp));apply aGL.1;apply List.ext_getElem?;intro j;have key: ∀(m j:Nat),j<m*u.cells->(List.flatten (List.replicate m (uI u)))[j]? =(uI u)[j%u.cells]? :=by
      intro m
      induction m with
      |zero=>intro j h;simp at h
      |succ m ih=>
       intro j h;rw[List.replicate_succ,aGq];by_cases I:j<u.cells
       .rw[aFU pP,Nat.mod_eq_of_lt I]
       rw[aFJ pP,D,ih (j-u.cells) (by rw[aGO] at h;omega)];congr 1
       conv=>rhs;rw[<-Nat.sub_add_cancel (Nat.le_of_not_lt I),Nat.add_mod_right]
     by_cases I:j<n*u.cells
     .have hm:j%u.cells<(uI u).length:=by rw[D];exact Nat.mod_lt _ M
      simp only[Array.toList_map,Array.toList_range,List.getElem?_map,List.getElem?_range I,Option.map_some,aGy,D];rw[key n j I,aFG hm];simp [getElem!_pos,hm]
     rw[aG1 pS,aG1 (by simp [D];omega)]
    have G: ¬(n*u.cells>2^24):=by have:=V.2;omega
    by_cases h0:n*u.cells=0
    .simp only[execOp,ho,Instr.buildSlice,aFM,aFX U,aFH,sizeOf,typeInfo,aGx,K,O.1,aF0,aFA G,aFz h0];rw[E #[] (fun h=>absurd h0 h),F,k1];simp only[newRow,aFM,run_newObj,aFH,aF0];rfl
    simp only[execOp,ho,Instr.buildSlice,aFM,aFX U,aFH,sizeOf,typeInfo,aGx,K,O.1,aF0,aFA G,aFA h0,zeroValue,O.2.2,Q];rw[E (uI u).toArray (fun _=>rfl),F,k1];simp only[newRow,aFM,run_newObj,aFH,aF0];rfl
theorem a5a {t:TypeId}{n:Nat}{ps:Array (Nat×Operand)}(ho:o.op= .buildSlice t n ps) {ρ:Operand->qK}(hρ: ∀q∈ps.toList,rS g w (ρ q.2) (a.eval q.2)) {base:Nat}{e:qY}(hr:df base n (uM ρ ps.toList) (rY T t)=some e) (hf:yJ g base e):rN P o a g w H e:=by
 generalize hst:rY T t=ot at hr;unfold df at hr;split at hr
 .rename_i u el by' ls_;split at hr
  .rename_i G;generalize hb:C0 u n (some (DT u n)) (uM ρ ps.toList)=ol at hr;cases ol with
   |none=>cases hr
   |some l=>
    simp only[Ka] at hr;split at hr
    .rename_i E;cases hr;obtain⟨cs',k2,k3,j⟩:=ij hT hH ho hρ hst hb E.2;have z:=(hf base (by simp [qQ]) (aFW _)).2;have D:=MD k2;have F:(w.alloc (.cells cs'.toArray el)).ownsRow 0 el u.cells (.slice (some ⟨w.heap.size,0,none⟩) n n) n cs':=⟨by rw[D,k3],.inr ⟨w.heap.size,n,cs'.toArray,rfl,aGu _,aHH w _,aFW _,by unfold maxLen;omega,by simp [D,k3],by simp [<-k3,<-D]⟩⟩;refine rN.value j (rR.row (v:= .slice (some ⟨w.heap.size,0,none⟩) n n) (xs:=cs') hH k3 F k2 (fun m _=>z m) (fun u I=>by rw[z] at I;cases I) (.inl (World.grownBy_alloc w _ _)) (fun b o h=>aFY (a:=⟨b,o,none⟩) (aF5 _ _ _ (hH.sl b o h))) (fun b hb o K=>?_) (fun b hb=>?_) ⟨⟨by simp [Gh.tok],.inr ⟨_,_,rfl,aFW _⟩⟩,trivial⟩)
     .cases hb;exact aHk _ (hH.sl _ _ K)
     cases hb;exact .inl (aFW _)
    cases hr
  rename_i G;generalize hb:C0 u n (some (DT u n)) (uM ρ ps.toList)=ol at hr;cases ol with
  |none=>cases hr
  |some l=>
   simp only[VE] at hr;split at hr
   .rename_i E;cases hr;obtain⟨cs',k2,k3,j⟩:=ij hT hH ho hρ hst hb E;have z:=hf base (by simp [qQ]) (aFW _);exact rN.value (v:= .slice (some ⟨w.heap.size,0,none⟩) n n) (w':=w.alloc (.cells cs'.toArray el)) j (rR.lit hH rfl k3 k2 (by unfold maxLen;omega) z.2)
   cases hr
 .rename_i u el by' ls_;generalize hb:C0 u n (some (DT u n)) (uM ρ ps.toList)=ol at hr;cases ol with
  |none=>cases hr
  |some l=>
   simp only[VE] at hr;split at hr
   .rename_i E;cases hr;obtain⟨cs',k2,k3,j⟩:=ij hT hH ho hρ hst hb E;have z:=hf base (by simp [qQ]) (aFW _);exact rN.value (v:= .slice (some ⟨w.heap.size,0,none⟩) n n) (w':=w.alloc (.cells cs'.toArray el)) j (rR.lit hH rfl k3 k2 (by unfold maxLen;omega) z.2)
   cases hr
 cases hr
theorem a5b {args:Array Operand}{tys:Array TypeId}(ho:o.op= .call ⟨.builtin .append,args,tys⟩) {ρ:Operand->qK}(hρ: ∀x∈args.toList,rS g w (ρ x) (a.eval x)) {e:qY}
  {t:TypeId}(h6:tys= #[t,t]) (hr:W4 H (rY T t) (vY ρ args.toList)=some e) (hs: ∀p∈e.side,p):rN P o a g w H e:=by
 subst h6;generalize hst:rY T t=ot at hr;generalize hM:vY ρ args.toList=ss at hr;unfold W4 at hr;split at hr
 .rename_i u el by' ar ls_ k n _ b1 r _;split at hr
  .rename_i kk;subst kk;generalize hk:qO H k=ob at hr;unfold W3 at hr;split at hr
   .rename_i e' t' l m;split at hr
    .rename_i kl;subst kl;split at hr
     .rename_i hD;obtain⟨rfl,hV,hG⟩:=hD;simp only[uG] at hr;cases hr;have h8:=hs _ (by simp:(n=m)∈_);subst h8;have hE:=hs _ (by simp:((n+List.length r)*by'<=140737488355328)∈_);obtain⟨v,vr,hv,Z,hA⟩:=WW hT hH hρ hM;obtain⟨h2,h3,_⟩:=(t7 hT hst).2;obtain⟨ei,hc,hz⟩:=aFQ.1 h3;simp only[aF3] at hz;obtain⟨cs,hx⟩:=HU (a:=a) hT hH ho;obtain⟨hl,v0,xs,V,z,hd,F,E⟩:=hH.blk k _ hk;obtain⟨K,U⟩:=Z.1;rw[V] at K;obtain rfl:=aFE K;obtain⟨adr,capr,X,hW,ha⟩:=ER hA.1;have Q:(l++r).length=n+List.length r:=by rw[aFD,hl]
      rw[Q];have M: ∀q,v0.ownBlock=some q->∀o,sY g H [k] q o:=fun q hq o=>⟨k,_,by simp,hk,v0,V,hq⟩;by_cases hm:List.length r=0
      .obtain rfl:r=[]:=aF4 hm;refine rN.value (v:=v0) (w':=w) ?_ (rR.row (v:=v0) (xs:=xs) hH Q z (by rw[List.append_nil];exact hd) F (fun u hu=>by
        have h5:g.cur k n=some u:=hu;rw[V] at h5;exact(aFE h5).symm) (.inl ⟨rfl,rfl,rfl,aFW _,fun _ _ _=>rfl⟩) (fun _ _ _=>rfl) E (fun q hq=> .inr (M q hq)) ⟨⟨by simp [Gh.tok],U⟩,trivial⟩)
       obtain⟨adl,capl,Y,hh⟩: ∃adl capl,v0= .slice adl n capl/\n<=capl:=by
        rcases U with⟨h,rfl⟩ |⟨b,cap,h,h'⟩
        .exact⟨_,_,h,aFW _⟩
        exact⟨_,_,h,h'⟩
       rw[hx,hv,X,Y];have hJ:(#[Value.slice adl n capl,Value.slice adr (List.length ([]:List b1.den)) capr]:Array q9)[0]? =some (.slice adl n capl):=rfl;have hI:(#[Value.slice adl n capl,Value.slice adr (List.length ([]:List b1.den)) capr]:Array q9)[1]? =some (.slice adr 0 capr):=rfl;have hy:(#[t,t]:Array TypeId)[0]? =some t:=rfl;have ht:(#[t,t]:Array TypeId)[1]? =some t:=rfl;simp only[builtin,Builtin.append_,hy,ht,hJ,hI,aFM,aFX h2,aFH,aF0,sizeOf,typeInfo,aGx,hc];cases adr<;>cases adl<;>simp [Builtin.lenOf,Builtin.firstCells,loadCells,loadCellsFrom,storeCells,hh]
      obtain⟨b,off,rfl,hL⟩: ∃b o,adr=some ⟨b,o,none⟩/\yY (Rd g w b1) w g.S b1.cells b o r:=by
       rcases ha with rfl|h
       .exact absurd rfl hm
       exact h
      obtain⟨news,hF,hB,_⟩:=RS hL;obtain⟨q,cap,w',he,O,hq,hg,hn,R⟩:=Mj (P:=P) w t o.type e' ei (yI b1) b1.cells by' h2 hc hz.2.2 hz.1 hz.2.1 (by
       have:=sZ (G9 (MH g w b1));simpa using this) v0 n xs z ⟨b,off,none⟩ (List.length r) capr news (MD hF) (fun j u hu=>by rw[aGP];exact hB j u hu) (gu (fun _ _ h=>AS h) hF) pP
       (by
        have:=Nat.mul_le_mul_left (n+List.length r) hG;unfold maxLen;omega) hE
      refine rN.value (v:= .slice (some ⟨q,0,none⟩) (n+List.length r) cap) (w':=w') ?_ (rR.row (v:= .slice (some ⟨q,0,none⟩) (n+List.length r) cap) (xs:=xs++news) hH Q O (gc hd hF) (fun m kt=>F m pP) (fun u hu=>by
       rw[F _ pP] at hu;cases hu) (.inr ⟨v0.ownBlock,hg,fun b hb o=>M b hb o⟩) (fun b o hS=>R b o (hH.sl b o hS) (fun hb=>absurd hS (E b hb o))) (fun b hb o hS=>?_) (fun b hb=>?_) ⟨⟨by simp [Gh.tok],.inr ⟨q,cap,rfl,hn⟩⟩,trivial⟩)
      .rw[hx,hv,X];simp only[builtin,aFM,he,aFH,aF0]
      .cases hb;rcases hq with h|h
       .rw[h] at hS;exact aHk _ (hH.sl _ _ hS)
       exact E _ h o hS
      cases hb;rcases hq with h|h
      .exact .inl (aG9 h.symm)
      exact .inr (M _ h)
     cases hr
    cases hr
   cases hr
  cases hr
 .rename_i u el by' ar ls_ a1 l k b1 r k2;split at hr
  .rename_i kn;obtain⟨rfl,rfl⟩:=kn;simp only[uG] at hr;generalize hk:qO H k=ob at hr;unfold VZ at hr;split at hr
   .rename_i e' c n;split at hr
    .rename_i hD;obtain⟨rfl,I,hV,hG⟩:=hD;cases hr;rw[aFD];have D:=hs _ (by simp:(List.length l=n)∈_);have hE:=hs _ (by simp:((List.length l+List.length r)*by'<=140737488355328)∈_);obtain⟨v,vr,hv,Z,hA⟩:=WW hT hH hρ hM;obtain⟨h2,h3,_⟩:=(t7 hT hst).2;obtain⟨ei,hc,hz⟩:=aFQ.1 h3;simp only[aF3] at hz;obtain⟨cs,hx⟩:=HU (a:=a) hT hH ho;obtain⟨v0,xs,V,z,F,E⟩:=hH.blk k _ hk;have K:g.cur k (List.length l)=some v:=Z.2;rw[D,V] at K;obtain rfl:=aFE K;obtain⟨adr,capr,X,hW,ha⟩:=ER hA.1;obtain⟨adl,capl,Y,hh,h9⟩:=ER Z.1;by_cases hm:List.length r=0
     ·
      obtain rfl:r=[]:=aF4 hm;have ha:List.length l+List.length ([]:List b1.den)=n:=by rw[D];rfl
      have G: ∀i,qO (r7 [(k,qJ.grow e' c (List.length l+List.length ([]:List b1.den)))] H) i=qO H i:=by
       intro i;simp only[r7,qO];by_cases hi:k=i
       .subst hi;rw[aFz rfl,ha];exact hk.symm
       rw[aFA hi]
      have hK:rR g w H ⟨[List.length l=n,(List.length l+List.length ([]:List b1.den))*by'<=140737488355328],(.val (.list b1) (l++[]),some k),[(k,.grow e' c (List.length l+List.length ([]:List b1.den)))],[k]⟩ g w v0:=by
       refine⟨.refl _ _,?_,⟨fun i b h=>hH.blk i b ((G i).symm.trans h),fun i j bi bj b o' kd h1 h2=>hH.dis i j bi bj b o' kd ((G i).symm.trans h1) ((G j).symm.trans h2),hH.sl,hH.tab.1,fun i blk b o' h hC=>hH.tab.2 i blk b o' ((G i).symm.trans h) hC⟩,.refl _ _ _,fun i blk b o' hi hg hC=> .inr ⟨i,blk,hi,(G i).symm.trans hg,hC⟩,fun _ _=>⟨rfl,rfl⟩,fun i u' y us h=> .inl ⟨y,us,(G i).symm.trans h⟩⟩;rw[List.append_nil];exact Z
      refine rN.value (v:=v0) (w':=w) ?_ hK;rw[hx,hv,X,Y];have hJ:(#[Value.slice adl (List.length l) capl,Value.slice adr (List.length ([]:List b1.den)) capr]:Array q9)[0]? =some (.slice adl (List.length l) capl):=rfl;have hI:(#[Value.slice adl (List.length l) capl,Value.slice adr (List.length ([]:List b1.den)) capr]:Array q9)[1]? =some (.slice adr 0 capr):=rfl;have hy:(#[t,t]:Array TypeId)[0]? =some t:=rfl;have ht:(#[t,t]:Array TypeId)[1]? =some t:=rfl;simp only[builtin,Builtin.append_,hy,ht,hJ,hI,aFM,aFX h2,aFH,aF0,sizeOf,typeInfo,aGx,hc];cases adr<;>cases adl<;>simp [Builtin.lenOf,Builtin.firstCells,loadCells,loadCellsFrom,storeCells,hh]
     obtain⟨b,off,rfl,hL⟩: ∃b o,adr=some ⟨b,o,none⟩/\yY (Rd g w b1) w g.S b1.cells b o r:=by
      rcases ha with rfl|h
      .exact absurd rfl hm
      exact h
     obtain⟨news,hF,hB,_⟩:=RS hL;have hX:uD (Rd g w b1) b1.cells l xs:=by
      by_cases h0:List.length l=0
      .obtain rfl:l=[]:=aF4 h0;have:xs=[]:=aF4 (by rw[z.1,<-D];simp);exact this
      rcases h9 with rfl|⟨b0,off0,rfl,ko⟩
      .exact absurd rfl h0
      obtain⟨ls,hd,hU,_⟩:=RS ko;rcases z.2 with⟨e1,e2⟩ |⟨q,cap,cur,e1,e2⟩
      .exact absurd (D.trans e2) h0
      rw[Y] at e1;simp only[aHg,aFy,Addr.mk.injEq] at e1;obtain⟨⟨rfl,rfl,_⟩,_,rfl⟩:=e1;have hY:v0= .slice (some ⟨b0,0,none⟩) n capl:=by rw[Y,D]
      have h7:=gv (hY▸z);have:ls=xs:=by
       have hQ:=MD hd;have hN:=z.1;apply List.ext_getElem?;intro j;by_cases hj:j<ls.length
       .have h1:=hU j ls[j] (aFG hj);have hR:j<xs.length:=by rw[hN,I,<-D,<-hQ];exact hj
        have h2:=h7 j xs[j] (aFG hR);rw[h1] at h2;rw[aFG hj,aFG hR,aFE h2]
       rw[aG1 pP,aG1 (by rw[hN,I,<-D,<-hQ];omega)]
      rw[<-this];exact hd
     obtain⟨q,cap,w',he,O,hq,hg,hn,R⟩:=Mj (P:=P) w t o.type e' ei (yI b1) c by' h2 hc hz.2.2 (by rw[hz.1,I]) hz.2.1 (by
      have:=sZ (G9 (MH g w b1));rw[I];simpa using this) v0 n xs z ⟨b,off,none⟩ (List.length r) capr news (by rw[MD hF,I]) (fun j u hu=>by rw[aGP];exact hB j u hu) (gu (fun _ _ h=>AS h) hF) pP
      (by
       have:=Nat.mul_le_mul_left (List.length l+List.length r) hG;unfold maxLen;omega) (by rw[<-D];exact hE)
     refine rN.value (v:= .slice (some ⟨q,0,none⟩) (n+List.length r) cap) (w':=w') ?_ (by
      have:=rR.append (side:=[List.length l=n,(List.length l+List.length r)*by'<=140737488355328]) (rds:=[k]) hH hk I D V z F E (I▸hX) (I▸hF) pP O hq hg hn R;rw[D];rw[D] at this;exact this)
     rw[hx,hv,X];simp only[builtin,aFM,he,aFH,aF0]
    cases hr
   cases hr
  cases hr
 cases hr
end
def AV:Ty->TypeDesc
 | .int k=> .int k
 | .str=> .string
 |_=> .bool
theorem ik {P:Program}{t:TypeId}{ti:TI}(h:tM P t ti) (z:EO ti.ty=true):P.underlying t=some (AV ti.ty):=by
 have j:=h.2;unfold xT at j;obtain⟨ty,el,by',ar,ls⟩:=ti;cases ty<;>simp only[EO,aG2] at z<;>exact j
theorem a5c {g:Gh}{w:q8}{k:Ty}(E:EO k=true) {a x:k.den}{v u:q9}(D:tD g w k a v) (j:tD g w k x u):Instr.sameNow (AV k) v u=some (HO k a x)/\(HO k a x=true->u=v):=by
 cases k with
 |int k=>
  rw[wD D,wD j];simp only[AV,Instr.sameNow,aHb,HO];refine⟨?_,fun h=>?_⟩
  .congr 1
  .rw[aGc h]
 |str=>
  rw[wX D,wX j];simp only[AV,Instr.sameNow,HO];refine⟨?_,fun h=>?_⟩
  .congr 1;rw[aHi,MapKept.bytes_beq,aFI];constructor
   .intro h;have:=aFZ (fun z:ByteArray=>z.data.toList) h;simpa using this
   intro h;rw[h]
  .rw[aGc h]
 |bool=>
  rw[vT D,vT j];simp only[AV,Instr.sameNow,HO];refine⟨trivial,fun h=>?_⟩;rw[aHc.1 h]
 |_=>simp [EO] at E
theorem il {g:Gh}{w:q8}{k v:Ty}(F:EO k=true) {a:k.den}{key:q9}(z:tD g w k a key): ∀{l:List (k.den×v.den)}{es:List MapEntry}(i:Nat),EP g w k v l es->
  (G7 k v l a=false->Instr.findNow (AV k) key es i=some none/\sT k v l a=v.zero/\∀b val born,tD g w v b val->EP g w k v (t6 k v a b l) (es++[⟨key,val,born⟩]))/\
  (G7 k v l a=true->∃j e,es[j]? =some e/\Instr.findNow (AV k) key es i=some (some (i+j,e.val))/\tD g w v (sT k v l a) e.val/\e.key=key/\∀b val,tD g w v b val->EP g w k v (t6 k v a b l) (es.modify j fun e=>{e with key:=key,val:=val}))
 |[],es,i,h=>by
  rw[show es=[] from h];exact⟨fun _=>⟨rfl,rfl,fun b val born hb=>⟨_,[],rfl,z,hb,rfl⟩⟩,fun h=>by simp [G7] at h⟩
 |(x,y)::l,_,i,⟨e,es',rfl,E,D,h3⟩=>by
  obtain⟨s1,s2⟩:=a5c F z E;cases hq:HO k a x with
  |true=>
   rw[hq] at s1;refine⟨fun h=>by simp [G7,hq] at h,fun _=>⟨0,e,rfl,?_,?_,s2 hq,fun b val hb=>?_⟩⟩
   .simp only[Instr.findNow,s1,aGK]
   .simp only[sT,hq,aHb];exact D
   .simp only[t6,hq,aHb];exact⟨_,es',rfl,z,hb,h3⟩
  |false=>
   rw[hq] at s1;obtain⟨f1,f2⟩:=il (v:=v) F z (i+1) h3;refine⟨fun h=>?_,fun h=>?_⟩
   .simp only[G7,hq] at h;obtain⟨g1,g2,g3⟩:=f1 (by simpa using h);refine⟨by simp only[Instr.findNow,s1];exact g1,by simp only[sT,hq];simpa using g2,fun b val born hb=>?_⟩;simp only[t6,hq];exact⟨e,_,rfl,E,D,g3 b val born hb⟩
   simp only[G7,hq] at h;obtain⟨j,e',g1,g2,g3,g4,g5⟩:=f2 (by simpa using h);refine⟨j+1,e',by simpa using g1,by simp only[Instr.findNow,s1];rw[g2];congr 3;omega,by simp only[sT,hq];simpa using g3,g4,fun b val hb=>?_⟩;simp only[t6,hq];exact⟨e,_,rfl,E,D,g5 b val hb⟩
def ML (ok:Bool) (z:q9):Option (Nat×q9)->q9
 |some (_,v)=>if ok then .tuple #[v,.bool true] else v
 |none=>if ok then .tuple #[z,.bool false] else z
section
variable {P:Program}{o:Oper}{a:Act}{g:Gh}{w:q8}{H:sF}{T:sW}(hT:xU P T) (hH:sK g w H)
include hT hH
theorem rR.newMap {side:List Prop}{rds:pZ}{base:Nat}{k v:Ty}(hf:g.J base=none) (O:g.cur base=fun _=>none):
  rR g w H ⟨side,(.val .mp (some base),none),[(base,.map k v [])],rds⟩ (g.var base w.heap.size none) (w.alloc (.map #[] 0)) (.map (some w.heap.size)):=by
 have D:(g.var base w.heap.size none).J base=some ⟨w.heap.size,0,none⟩:=by simp [Gh.var]
 have le:Le g w (g.var base w.heap.size none) (w.alloc (.map #[] 0)):=⟨fun _ _ h=>h,fun b o h=>aFY (a:=⟨b,o,none⟩) (aF5 _ _ _ (hH.sl b o h)),fun i p h=>by
  show (if i=base then _ else _)=_;rw[aFA (fun e1=>by rw[e1,hf] at h;cases h)];exact h,fun _ _ _ h=>h⟩
 have fr:Fr (sY g H (qQ [(base,qJ.map k v [])])) w (w.alloc (.map #[] 0)) g.S (g.var base w.heap.size none).S:=
  ⟨rfl,rfl,rfl,by simp,fun b hb _=>aF5 _ _ _ hb,fun b o hb _=>⟨aFY (a:=⟨b,o,none⟩) (aF5 _ _ _ hb),aGn (a:=⟨b,o,none⟩) (aF5 _ _ _ hb)⟩,fun b o h=> .inl h,fun b s h=> .inl ((CC (aF5 _ _ _ (CB h))).trans h)⟩
 have gho: ∀i,i∉qQ [(base,qJ.map k v [])]->(g.var base w.heap.size none).J i=g.J i/\(g.var base w.heap.size none).cur i=g.cur i:=fun i hi=>⟨by
  show (if i=base then _ else _)=_;rw[aFA (fun e1=>hi (by simp [qQ,e1]))],rfl⟩
 have get: ∀i blk,i∈qQ [(base,qJ.map k v [])]->qO (r7 [(base,qJ.map k v [])] H) i=some blk->i=base/\blk= .map k v []:=by
  intro i blk hi z;simp only[qQ,aFR] at hi;subst hi;simp only[r7,qO,aHb,aFy] at z;exact⟨rfl,z.symm⟩
 have perm: ∀i blk b o,i∈qQ [(base,qJ.map k v [])]->qO (r7 [(base,qJ.map k v [])] H) i=some blk->sH (g.var base w.heap.size none) i blk b o->w.heap.size<=b\/sY g H (qQ [(base,qJ.map k v [])]) b o:=by
  intro i blk b o hi z ho;obtain⟨rfl,rfl⟩:=get i blk hi z;obtain⟨p,hp,M⟩:=ho;rw[D] at hp;obtain rfl:=aFE hp;exact .inl (aG9 M.symm)
 refine⟨le,⟨.inr ⟨rfl,_,D,rfl⟩,trivial⟩,hH.upd le fr perm gho (fun i blk hi z=>?_) (fun i j bi bj b o hi K E G F _ _=>E ((get i bi hi G).1.trans (get j bj K F).1.symm)) (fun b o h=>aF9 (hH.sl b o h) pR),fr,perm,gho,fun i u' y us h=>by
  simp only[r7,qO] at h;split at h
  .cases h
  exact .inl ⟨y,us,h⟩⟩
 obtain⟨rfl,rfl⟩:=get i blk hi z;refine⟨⟨w.heap.size,0,none⟩,#[],0,D,rfl,?_,rfl,fun o I=>aHk _ (hH.sl _ _ I)⟩;show (w.heap.push (.map #[] 0))[w.heap.size]? =_;rw[aHA]
theorem a5d {t:TypeId}{r:Option Operand}(ho:o.op= .makeMap t r) {base:Nat}{e:qY}(hr:fj T base (rY T t) r=some e) (hf:yJ g base e):rN P o a g w H e:=by
 generalize hst:rY T t=ot at hr;unfold fj at hr;split at hr
 .rename_i el fl ar ls_;unfold Kp at hr;split at hr
  .split at hr
   .cases hr;have h:=hf base (by simp [qQ]) (aFW _);refine rN.value (v:= .map (some w.heap.size)) (w':=w.alloc (.map #[] 0)) ?_ (rR.newMap hT hH h.1 (funext h.2));unfold execOp;rw[ho];simp only[Instr.makeMap,aFM,run_newObj,aFH,aF0,Option.map_none];rfl
   cases hr
  cases hr
 cases hr
theorem a5e {xt el fl:TypeId}{ok:Bool}{r:Nat}{es:Array MapEntry}{cl:Nat}{key z res:q9}{kd:TypeDesc}(hm:P.underlying xt=some (.map el fl)) (hb:w.heap[r]? =some (.map es cl)) (h:P.underlying el=some kd) (j: ∀ty,kd≠.interface ty) (F: ∀n t,kd≠.array n t) (E: ∀f,kd≠.struct f)
  {q:Option (Nat×q9)}(hq:Instr.findNow kd key es.toList 0=some q) (K:(zeroValue fl).run P w= .ok z w)
  (D:res=ML ok z q):(Instr.lookup xt (.map (some r)) key ok).run P w= .ok res w:=by
 have I: ∀em,(Instr.checkKey em 10000 el key).run P w= .ok () w:=by
  intro em;unfold Instr.checkKey;simp only[aFM,aFX h,aFH];cases kd<;>first|rfl|(exact absurd rfl (j _)) |(exact absurd rfl (F _ _)) |(exact absurd rfl (E _))
 have G:(Instr.findKey el key es.toList).run P w= .ok q w:=by
  unfold Instr.findKey;simp only[aFM,aFX h,aFH,hq,aF0]
 subst D;unfold Instr.lookup;simp only[aFM,aFX hm,aFH,MapKept.run_getObj_map hb,aF0,I,G];cases q with
 |none=>cases ok<;>simp [K,aFM,aFH,ML]
 |some q=>cases ok<;>simp [aFM,aFH,ML]
theorem a5f {xt el fl:TypeId}{ok:Bool}{key z:q9}{kd:TypeDesc}(hm:P.underlying xt=some (.map el fl)) (h:P.underlying el=some kd) (D: ∀ty,kd≠.interface ty) (F: ∀n t,kd≠.array n t) (E: ∀f,kd≠.struct f)
  (I:(zeroValue fl).run P w= .ok z w):(Instr.lookup xt (.map none) key ok).run P w= .ok (ML ok z none) w:=by
 have G: ∀em,(Instr.checkKey em 10000 el key).run P w= .ok () w:=by
  intro em;unfold Instr.checkKey;simp only[aFM,aFX h,aFH];cases kd<;>first|rfl|(exact absurd rfl (D _)) |(exact absurd rfl (F _ _)) |(exact absurd rfl (E _))
 have j:(Instr.findKey el key ([]:List MapEntry)).run P w= .ok none w:=by
  unfold Instr.findKey;simp only[aFM,aFX h,aFH,Instr.findNow,aF0]
 unfold Instr.lookup;simp only[aFM,aFX hm,aFH,aF0,G,j];cases ok<;>simp [I,aFM,aFH,ML,j]
theorem rR.updMap {side:List Prop}{rds:pZ}{i:Nat}{k v:Ty}{l l':List (k.den×v.den)}{p:Pl}{es es':Array MapEntry}{cl cl':Nat}(hi:qO H i=some (.map k v l)) (hp:g.J i=some p) (I:p.2=0) (hb:w.heap[p.1]? =some (.map es cl)) (V: ∀o,¬g.S p.1 o) (X:EP g w k v l' es'.toList):
  rR g w H ⟨side,(.any,none),[(i,.map k v l')],rds⟩ g {w with heap:=w.heap.setIfInBounds p.1 (.map es' cl')} undef:=by
 have M:p.1<w.heap.size:=(aF1.1 hb).1;have D: ∀b,b≠p.1->(w.heap.setIfInBounds p.1 (.map es' cl'))[b]? =w.heap[b]? :=fun b K=>by rw[aGR (Ne.symm K)]
 have z: ∀o,sY g H (qQ [(i,qJ.map k v l')]) p.1 o:=fun o=>⟨i,_,by simp [qQ],hi,p,hp,rfl⟩;have le:Le g w g {w with heap:=w.heap.setIfInBounds p.1 (.map es' cl')}:=⟨fun _ _ h=>h,fun b o h=>aFY (a:=⟨b,o,none⟩) (D b (fun e=>V o (e▸h))),fun _ _ h=>h,fun _ _ _ h=>h⟩
 have fr:Fr (sY g H (qQ [(i,qJ.map k v l')])) w {w with heap:=w.heap.setIfInBounds p.1 (.map es' cl')} g.S g.S:=
  ⟨rfl,rfl,rfl,by simp,fun b _ G=>D b (fun e=>G 0 (e▸z 0)),fun b o _ G=>⟨aFY (a:=⟨b,o,none⟩) (D b (fun e=>G (e▸z o))),aGn (a:=⟨b,o,none⟩) (D b (fun e=>G (e▸z o)))⟩,fun b o h=> .inl h,fun b s h=>(by
   by_cases e:b=p.1
   .exact .inr fun o=>e▸z o
   exact .inl ((CC (D b e)).trans h))⟩
 have get: ∀j blk,j∈qQ [(i,qJ.map k v l')]->qO (r7 [(i,qJ.map k v l')] H) j=some blk->j=i/\blk= .map k v l':=by
  intro j blk E F;simp only[qQ,aFR] at E;subst E;simp only[r7,qO,aHb,aFy] at F;exact⟨rfl,F.symm⟩
 have perm: ∀j blk b o,j∈qQ [(i,qJ.map k v l')]->qO (r7 [(i,qJ.map k v l')] H) j=some blk->sH g j blk b o->w.heap.size<=b\/sY g H (qQ [(i,qJ.map k v l')]) b o:=by
  intro j blk b o E F ho;obtain⟨rfl,rfl⟩:=get j blk E F;obtain⟨q,hq,rfl⟩:=ho;rw[hp] at hq;obtain rfl:=aFE hq;exact .inr (z o)
 refine⟨le,⟨trivial,trivial⟩,hH.upd le fr perm (fun _ _=>⟨rfl,rfl⟩) (fun j blk E F=>?_) (fun j j' bi bj b o E O Q U R _ _=>Q ((get j bi E U).1.trans (get j' bj O R).1.symm)) (fun b o h=>by simpa using hH.sl b o h),fr,perm,fun _ _=>⟨rfl,rfl⟩,fun j u' y us h=>by
  simp only[r7,qO] at h;split at h
  .cases h
  exact .inl ⟨y,us,h⟩⟩
 obtain⟨rfl,rfl⟩:=get j blk E F;exact⟨p,es',cl',hp,I,by simp [aHq,M],ga le X,V⟩
theorem Mw {i:Nat}{k:pY}{v:q9}(h:rS g w (.val .mp (some i),k) v): ∃p,g.J i=some p/\v= .map (some p.1):=by
 obtain⟨p,j,e⟩:=xV rfl h.1;simp only[aGm,and_true] at e;exact⟨p,j,e⟩
theorem im {k:Ty}:(∀ty,AV k≠.interface ty)/\(∀n t,AV k≠.array n t)/\(∀f,AV k≠.struct f):=by
 cases k<;>exact⟨fun _ h=>by simp [AV] at h,fun _ _ h=>by simp [AV] at h,fun _ h=>by simp [AV] at h⟩
theorem a5g {t:TypeId}{x y:Operand}{ok:Bool}(ho:o.op= .lookup t x y ok) {sx sy:qK}(V:rS g w sx (a.eval x)) (X:rS g w sy (a.eval y)) {e:qY}(hr:WC T H ok (rY T t) sx sy=some e):rN P o a g w H e:=by
 generalize hst:rY T t=ot at hr;unfold WC at hr;split at hr
 .rename_i el fl ar ls_ i kk;generalize Q:rY T el=ok1 at hr;generalize O:rY T fl=ok2 at hr;unfold fk at hr;split at hr
  .rename_i kt vt k a' _;split at hr
   .rename_i z;unfold WB at hr;split at hr
    .rename_i k' v' l hb;split at hr
     .rename_i R;obtain⟨rfl,rfl⟩:=R;split at hr
      .rename_i h;obtain⟨p,es,cl,hp,ha,Y,Z,hS⟩:=hH.blk i _ hb;obtain⟨p',K,F⟩:=Mw hT hH V;rw[hp] at K;obtain rfl:=aFE K;have hm:=(t7 hT hst).2;simp only[xT] at hm;have D:=ik (t7 hT Q) (z▸h);obtain⟨iv,I,U,G⟩:=ES (t7 hT O);have M:(zeroValue fl).run P w= .ok (yI vt.ty) w:=by
        simp only[zeroValue,typeInfo,aFM,aGx,I,G,aFH,aF0]
       obtain⟨f1,f2⟩:=il (v:=vt.ty) h X.1 0 Z;rw[<-z] at D;obtain⟨p1,p2,p3⟩:=im hT hH (k:=k);have go: ∀{q res},Instr.findNow (AV k) (a.eval y) es.toList 0=some q->res=ML ok (yI vt.ty) q->(execOp a.eval o).run P w= .ok (.value res) w:=by
        intro q res h1 h2;unfold execOp;rw[ho];simp only[F,aFM,a5e hT hH hm Y D p1 p2 p3 h1 M h2,aFH,aF0]
       cases E:G7 k vt.ty l a' with
       |false=>
        obtain⟨g1,g2,_⟩:=f1 E;cases ok with
        |true=>
         cases hr;refine rN.pure hH (v:= .tuple #[yI vt.ty,.bool false]) (go g1 rfl) ?_;simp only[OH,E,g2];exact⟨[_,_],rfl,_,[_],rfl,MH g w _,trivial,_,[],rfl,vU g w false,trivial,rfl⟩
        |false=>
         cases hr;refine rN.pure hH (v:=yI vt.ty) (go g1 rfl) ?_;simp only[OH,g2];exact MH g w _
       |true=>
        obtain⟨j,e',g1,g2,g3,g4,g5⟩:=f2 E;cases ok with
        |true=>
         cases hr;refine rN.pure hH (v:= .tuple #[e'.val,.bool true]) (go g2 rfl) ?_;simp only[OH,E];exact⟨[_,_],rfl,_,[_],rfl,g3,trivial,_,[],rfl,vU g w true,trivial,rfl⟩
        |false=>
         cases hr;refine rN.pure hH (v:=e'.val) (go g2 rfl) ?_;simp only[OH];exact g3
      cases hr
     cases hr
    cases hr
   cases hr
  cases hr
 .rename_i el fl ar ls_ kk;generalize Q:rY T el=ok1 at hr;generalize O:rY T fl=ok2 at hr;unfold Kq at hr;split at hr
  .rename_i kt vt k a' _;split at hr
   .rename_i z;split at hr
    .rename_i h;have F:a.eval x= .map none:=by
      have e1:=xV rfl V.1;simpa[Rd,MC] using e1
     have hm:=(t7 hT hst).2;simp only[xT] at hm;have D:=ik (t7 hT Q) (z▸h);obtain⟨iv,I,U,G⟩:=ES (t7 hT O);have M:(zeroValue fl).run P w= .ok (yI vt.ty) w:=by
      simp only[zeroValue,typeInfo,aFM,aGx,I,G,aFH,aF0]
     rw[<-z] at D;obtain⟨p1,p2,p3⟩:=im hT hH (k:=k);have go:(execOp a.eval o).run P w= .ok (.value (ML ok (yI vt.ty) none)) w:=by
      unfold execOp;rw[ho];simp only[F,aFM,a5f hT hH hm D p1 p2 p3 M,aFH,aF0]
     cases ok with
     |true=>
      cases hr;exact rN.pure hH (v:= .tuple #[yI vt.ty,.bool false]) go ⟨[_,_],rfl,_,[_],rfl,MH g w _,trivial,_,[],rfl,vU g w false,trivial,rfl⟩
     |false=>
      cases hr;exact rN.pure hH (v:=yI vt.ty) go (MH g w _)
    cases hr
   cases hr
  cases hr
 cases hr
theorem a5h {g:Gh}{w:q8}{k:Ty}(j:EO k=true) {x:k.den}{v:q9}(h:tD g w k x v) (n:Nat):Instr.sameBits n v v=true:=by
 cases k with
 |int k=>rw[wD h];cases n<;>simp [Instr.sameBits]
 |str=>rw[wX h];cases n<;>simp [Instr.sameBits,MapKept.bytes_beq]
 |bool=>rw[vT h];cases n<;>simp [Instr.sameBits]
 |_=>simp [EO] at j
omit hT hH in
theorem Mx {T:sW}{ti:Option TI}{s:qK}{v:q9}(h:rS g w s v):rS g w (WE T ti s) v:=by
 unfold WE;split
 .unfold Kr;split
  .rename_i f x _;refine⟨.inr ⟨rfl,?_⟩,trivial⟩;rcases h.1 with⟨j,_⟩ |⟨j,vs,z,h3⟩
   .cases j
   rw[show vs=[] from z] at h3;exact h3
  exact h
 exact h
theorem My {t:TypeId}{m x y:Operand}(ho:o.op= .mapUpdate t m x y\/o.op= .insert t m x y) {sm sx sy:qK}(hm:rS g w sm (a.eval m)) (V:rS g w sx (a.eval x)) (U:rS g w sy (a.eval y)) {e:qY}(hr:OW T H (rY T t) sm sx sy=some e):rN P o a g w H e:=by
 generalize hst:rY T t=ot at hr;unfold OW at hr;split at hr
 .rename_i el fl ar ls_ i kk;generalize Y:rY T el=ok1 at hr;unfold WD at hr;split at hr
  .rename_i kt k a' _ u b _;split at hr
   .rename_i M;unfold OV at hr;split at hr
    .rename_i k' v' l hb;split at hr
     .rename_i R;obtain⟨rfl,rfl⟩:=R;split at hr
      .rename_i h;cases hr;obtain⟨p,es,cl,hp,G,E,hM,X⟩:=hH.blk i _ hb;obtain⟨p',I,F⟩:=Mw hT hH hm;rw[hp] at I;obtain rfl:=aFE I;have z:=(t7 hT hst).2;simp only[xT] at z;have D:=ik (t7 hT Y) (M▸h);rw[<-M] at D;obtain⟨p1,p2,p3⟩:=im hT hH (k:=k);have Q:(Instr.checkKey false 10000 el (a.eval x)).run P w= .ok () w:=by
        unfold Instr.checkKey;simp only[aFM,aFX D,aFH];generalize AV k=kd at p1 p2 p3;cases kd<;>first|rfl|(exact absurd rfl (p1 _)) |(exact absurd rfl (p2 _ _)) |(exact absurd rfl (p3 _))
       have O: ∀{q},Instr.findNow (AV k) (a.eval x) es.toList 0=some q->(Instr.findKey el (a.eval x) es.toList).run P w= .ok q w:=by
        intro q hq;unfold Instr.findKey;simp only[aFM,aFX D,aFH,hq,aF0]
       obtain⟨f1,f2⟩:=il (v:=u) h V.1 0 hM;cases K:G7 k u l a' with
       |false=>
        obtain⟨g1,_,g3⟩:=f1 K;refine rN.skip (w':={w with heap:=w.heap.setIfInBounds p.1 (.map (es.push ⟨a.eval x,a.eval y,cl⟩) (cl+1))}) ?_ (rR.updMap hT hH hb hp G E X ?_)
        .unfold execOp;rcases ho with ho|ho<;>rw[ho]<;>
          simp only[Instr.mapUpdate,F,aFM,aFX z,aFH,MapKept.run_getObj_map E,Q,O g1,MapKept.run_setObj_map _ E,aF0]
        .simp only[OH,Array.toList_push];exact g3 b _ _ U.1
       |true=>
        obtain⟨j,e',g1,g2,g3,g4,g5⟩:=f2 K;rw[aF6] at g2;refine rN.skip (w':={w with heap:=w.heap.setIfInBounds p.1 (.map (es.modify j fun e=>{e with key:=a.eval x,val:=a.eval y}) cl)}) ?_ (rR.updMap hT hH hb hp G E X ?_)
        .have Z:es[j]? =some e':=by rw[<-aGF];exact g1
         unfold execOp;rcases ho with ho|ho<;>rw[ho]<;>
          simp only[Instr.mapUpdate,F,aFM,aFX z,aFH,MapKept.run_getObj_map E,Q,O g2,Z,Option.map_some,aHF,g4,Instr.keyThatStays,a5h hT hH h V.1,aHb,MapKept.run_setObj_map _ E,aF0]
        simp only[OH,Array.toList_modify];exact g5 b _ U.1
      cases hr
     cases hr
    cases hr
   cases hr
  cases hr
 cases hr
end
theorem Mz {P:Program}{w:q8}{r:Nat}{s:ByteArray}{n:Nat}(hb:w.heap[r]? =some (.stringIter s n)):(getObj r).run P w= .ok (.stringIter s n) w:=by
 simp [getObj,Sem.run,hb]
theorem a5i {P:Program}{w:q8}{r:Nat}{s:ByteArray}{n:Nat}(o:Obj) (hb:w.heap[r]? =some (.stringIter s n)):(setObj r o).run P w= .ok () {w with heap:=w.heap.setIfInBounds r o}:=by
 simp [setObj,Sem.run,hb]
section
variable {P:Program}{o:Oper}{a:Act}{g:Gh}{w:q8}{H:sF}{T:sW}(hT:xU P T) (hH:sK g w H)
include hT hH
theorem rR.newIter {side:List Prop}{rds:pZ}{base:Nat}{s:pL}(hf:g.J base=none) (O:g.cur base=fun _=>none):
  rR g w H ⟨side,(.val .ref (some (base,0)),none),[(base,.iter s 0)],rds⟩ (g.var base w.heap.size none) (w.alloc (.stringIter ⟨s.toArray⟩ 0)) (.pointer (some ⟨w.heap.size,0,none⟩)):=by
 have D:(g.var base w.heap.size none).J base=some ⟨w.heap.size,0,none⟩:=by simp [Gh.var]
 have le:Le g w (g.var base w.heap.size none) (w.alloc (.stringIter ⟨s.toArray⟩ 0)):=⟨fun _ _ h=>h,fun b o h=>aFY (a:=⟨b,o,none⟩) (aF5 _ _ _ (hH.sl b o h)),fun i p h=>by
  show (if i=base then _ else _)=_;rw[aFA (fun e1=>by rw[e1,hf] at h;cases h)];exact h,fun _ _ _ h=>h⟩
 have fr:Fr (sY g H (qQ [(base,qJ.iter s 0)])) w (w.alloc (.stringIter ⟨s.toArray⟩ 0)) g.S (g.var base w.heap.size none).S:=
  ⟨rfl,rfl,rfl,by simp,fun b hb _=>aF5 _ _ _ hb,fun b o hb _=>⟨aFY (a:=⟨b,o,none⟩) (aF5 _ _ _ hb),aGn (a:=⟨b,o,none⟩) (aF5 _ _ _ hb)⟩,fun b o h=> .inl h,fun b s h=> .inl ((CC (aF5 _ _ _ (CB h))).trans h)⟩
 have gho: ∀i,i∉qQ [(base,qJ.iter s 0)]->(g.var base w.heap.size none).J i=g.J i/\(g.var base w.heap.size none).cur i=g.cur i:=fun i hi=>⟨by
  show (if i=base then _ else _)=_;rw[aFA (fun e1=>hi (by simp [qQ,e1]))],rfl⟩
 have get: ∀i blk,i∈qQ [(base,qJ.iter s 0)]->qO (r7 [(base,qJ.iter s 0)] H) i=some blk->i=base/\blk= .iter s 0:=by
  intro i blk hi z;simp only[qQ,aFR] at hi;subst hi;simp only[r7,qO,aHb,aFy] at z;exact⟨rfl,z.symm⟩
 have perm: ∀i blk b o,i∈qQ [(base,qJ.iter s 0)]->qO (r7 [(base,qJ.iter s 0)] H) i=some blk->sH (g.var base w.heap.size none) i blk b o->w.heap.size<=b\/sY g H (qQ [(base,qJ.iter s 0)]) b o:=by
  intro i blk b o hi z ho;obtain⟨rfl,rfl⟩:=get i blk hi z;obtain⟨p,hp,M⟩:=ho;rw[D] at hp;obtain rfl:=aFE hp;exact .inl (aG9 M.symm)
 refine⟨le,⟨.inr ⟨rfl,_,D,rfl⟩,trivial⟩,hH.upd le fr perm gho (fun i blk hi z=>?_) (fun i j bi bj b o hi K E G F _ _=>E ((get i bi hi G).1.trans (get j bj K F).1.symm)) (fun b o h=>aF9 (hH.sl b o h) pR),fr,perm,gho,fun i u' y us h=>by
  simp only[r7,qO] at h;split at h
  .cases h
  exact .inl ⟨y,us,h⟩⟩
 obtain⟨rfl,rfl⟩:=get i blk hi z;refine⟨⟨w.heap.size,0,none⟩,D,rfl,?_,fun o I=>aHk _ (hH.sl _ _ I)⟩;show (w.heap.push (.stringIter ⟨s.toArray⟩ 0))[w.heap.size]? =_;rw[aHA]
theorem rR.updIter {side:List Prop}{rds:pZ}{i:Nat}{s:pL}{n n':Nat}{d:qK}{val:q9}{p:Pl}(hi:qO H i=some (.iter s n)) (hp:g.J i=some p) (I:p.2=0) (hb:w.heap[p.1]? =some (.stringIter ⟨s.toArray⟩ n)) (V: ∀o,¬g.S p.1 o) (X:rS g {w with heap:=w.heap.setIfInBounds p.1 (.stringIter ⟨s.toArray⟩ n')} d val):
  rR g w H ⟨side,d,[(i,.iter s n')],rds⟩ g {w with heap:=w.heap.setIfInBounds p.1 (.stringIter ⟨s.toArray⟩ n')} val:=by
 have M:p.1<w.heap.size:=(aF1.1 hb).1;have D: ∀b,b≠p.1->(w.heap.setIfInBounds p.1 (.stringIter ⟨s.toArray⟩ n'))[b]? =w.heap[b]? :=fun b K=>by rw[aGR (Ne.symm K)]
 have z: ∀o,sY g H (qQ [(i,qJ.iter s n')]) p.1 o:=fun o=>⟨i,_,by simp [qQ],hi,p,hp,rfl⟩;have le:Le g w g {w with heap:=w.heap.setIfInBounds p.1 (.stringIter ⟨s.toArray⟩ n')}:=⟨fun _ _ h=>h,fun b o h=>aFY (a:=⟨b,o,none⟩) (D b (fun e=>V o (e▸h))),fun _ _ h=>h,fun _ _ _ h=>h⟩
 have fr:Fr (sY g H (qQ [(i,qJ.iter s n')])) w {w with heap:=w.heap.setIfInBounds p.1 (.stringIter ⟨s.toArray⟩ n')} g.S g.S:=
  ⟨rfl,rfl,rfl,by simp,fun b _ G=>D b (fun e=>G 0 (e▸z 0)),fun b o _ G=>⟨aFY (a:=⟨b,o,none⟩) (D b (fun e=>G (e▸z o))),aGn (a:=⟨b,o,none⟩) (D b (fun e=>G (e▸z o)))⟩,fun b o h=> .inl h,fun b s h=>(by
   by_cases e:b=p.1
   .exact .inr fun o=>e▸z o
   exact .inl ((CC (D b e)).trans h))⟩
 have get: ∀j blk,j∈qQ [(i,qJ.iter s n')]->qO (r7 [(i,qJ.iter s n')] H) j=some blk->j=i/\blk= .iter s n':=by
  intro j blk E F;simp only[qQ,aFR] at E;subst E;simp only[r7,qO,aHb,aFy] at F;exact⟨rfl,F.symm⟩
 have perm: ∀j blk b o,j∈qQ [(i,qJ.iter s n')]->qO (r7 [(i,qJ.iter s n')] H) j=some blk->sH g j blk b o->w.heap.size<=b\/sY g H (qQ [(i,qJ.iter s n')]) b o:=by
  intro j blk b o E F ho;obtain⟨rfl,rfl⟩:=get j blk E F;obtain⟨q,hq,rfl⟩:=ho;rw[hp] at hq;obtain rfl:=aFE hq;exact .inr (z o)
 refine⟨le,X,hH.upd le fr perm (fun _ _=>⟨rfl,rfl⟩) (fun j blk E F=>?_) (fun j j' bi bj b o E O Q U R _ _=>Q ((get j bi E U).1.trans (get j' bj O R).1.symm)) (fun b o h=>by simpa using hH.sl b o h),fr,perm,fun _ _=>⟨rfl,rfl⟩,fun j u' y us h=>by
  simp only[r7,qO] at h;split at h
  .cases h
  exact .inl ⟨y,us,h⟩⟩
 obtain⟨rfl,rfl⟩:=get j blk E F;exact⟨p,hp,I,by simp [aHq,M],V⟩
theorem a5j {t:TypeId}{x:Operand}(ho:o.op= .range t x) {sx:qK}(z:rS g w sx (a.eval x)) {base:Nat}{e:qY}(hr:fp base (rY T t) sx=some e) (hf:yJ g base e):rN P o a g w H e:=by
 generalize hst:rY T t=ot at hr;unfold fp at hr;split at hr
 .rename_i el b ar ls s k;cases hr;have h:=hf base (by simp [qQ]) (aFW _);have D:=wX z.1;have j:=(t7 hT hst).2;simp only[xT] at j;refine rN.value (v:= .pointer (some ⟨w.heap.size,0,none⟩)) (w':=w.alloc (.stringIter ⟨s.toArray⟩ 0)) ?_ (rR.newIter hT hH h.1 (funext h.2));unfold execOp;rw[ho];simp only[Instr.range,D,aFM,aFX j,run_newObj,aFH,aF0];rfl
 cases hr
theorem a5k {x:Operand}{b:Bool}(ho:o.op= .next x b) {sx:qK}(K:rS g w sx (a.eval x)) {e:qY}(hr:WF H b sx=some e):rN P o a g w H e:=by
 unfold WF at hr;split at hr
 .rename_i i k;unfold fq at hr;split at hr
  .rename_i s n hb;cases hr;obtain⟨p,hp,F,z,I⟩:=hH.blk i _ hb;obtain⟨q,hq,G⟩:=xW K.1;rw[hp] at hq;obtain rfl:=aFE hq;rw[F] at G;by_cases hl:n<s.length
   .have D:n<(⟨s.toArray⟩:ByteArray).size:=by simpa[ByteArray.size] using hl
    refine rN.value (v:= .tuple #[.bool true,.int .i64 (n:Int),.int .i32 (xR s n)]) (w':={w with heap:=w.heap.setIfInBounds p.1 (.stringIter ⟨s.toArray⟩ (BB s n))}) ?_ (rR.updIter hT hH hb hp F z I ⟨⟨fun _=>rfl,fun h=>absurd hl (of_decide_eq_false h)⟩,trivial⟩)
    unfold execOp;rw[ho];have E:BB s n=n+(Utf8.decode ⟨s.toArray⟩ n).2:=by unfold BB fm;rw[aFz hl]
    simp only[Instr.next,G,aFM,Mz z,aFH,D,aHb,a5i _ z,aF0,E];rfl
   have D: ¬n<(⟨s.toArray⟩:ByteArray).size:=by simpa[ByteArray.size] using hl
   have E:BB s n=n:=by unfold BB;rw[aFA hl]
   have hw:({w with heap:=w.heap.setIfInBounds p.1 (.stringIter ⟨s.toArray⟩ (BB s n))}:q8)=w:=by
    rw[E];have:w.heap.setIfInBounds p.1 (.stringIter ⟨s.toArray⟩ n)=w.heap:=by
     obtain⟨O,Q⟩:=aF1.1 z;apply Array.ext_getElem?;intro j;rw[aHq];split
     .rename_i M;subst M;first|rw[z] |rw[aFz O,z]
     rfl
    rw[this]
   refine rN.value (v:= .tuple #[.bool false]) (w':={w with heap:=w.heap.setIfInBounds p.1 (.stringIter ⟨s.toArray⟩ (BB s n))}) ?_ (rR.updIter hT hH hb hp F z I ⟨⟨fun h=>absurd (aGc h) hl,fun _=>rfl⟩,trivial⟩)
   rw[hw];unfold execOp;rw[ho];simp only[Instr.next,G,aFM,Mz z,aFH,D,aHG,aF0]
  cases hr
 cases hr
end
def r5:Nat->List qJ->sF
 |_,[]=>[]
 |c,b::L=>(c,b)::r5 (c+1) L
theorem X3: ∀(L:List qJ) (c i:Nat),qO (r5 c L) i=if c<=i then L[i-c]? else none
 |[],c,i=>by simp [r5,qO]
 |b::L,c,i=>by
  simp only[r5,qO];by_cases h:c=i
  .subst h;simp
  rw[aFA h,X3 L (c+1) i];by_cases j:c<=i
  .rw[aFz j,aFz pP];obtain⟨d,z⟩: ∃d,i-c=d+1:=⟨i-c-1,pP⟩;rw[z,aGk];congr 1;omega
  rw[aFA j,aFA pP]
theorem xY (L:List qJ) (i:Nat):qO (r5 0 L) i=L[i]? :=by rw[X3];simp
def z6 (g:Gh) (H:sF) (b o:Nat):Prop:= ∃i blk,qO H i=some blk/\sH g i blk b o
def vG (g:Gh) (w:q8):List qK->pW->Prop
 |[],vs=>vs=[]
 |s::ss,vs=> ∃v vs',vs=v::vs'/\rS g w s v/\vG g w ss vs'
def RV (g:Gh) (w:q8):List qK->q9->Prop
 |[s],v=>rS g w s v
 |l,v=> ∃vs:pW,v= .tuple vs.toArray/\vG g w l vs
structure GA (g:Gh) (w:q8) (L:List qJ) (r:qT) (g':Gh) (w':q8) (v:q9):Prop where
 shut: ∀b o,g.S b o->g'.S b o/\w'.cell? ⟨b,o,none⟩=w.cell? ⟨b,o,none⟩
 heap:sK g' w' (r5 0 r.H)
 ret:RV g' w' r.ret v
 fr:Fr (z6 g (r5 0 L)) w w' g.S g'.S
 perm: ∀i blk b o,r.H[i]? =some blk->sH g' i blk b o->w.heap.size<=b\/z6 g (r5 0 L) b o
 J: ∀(i:Nat) t x ts,L[i]? =some (.cells t x ts)->g'.J i=g.J i
 ty: ∀(i:Nat) t x ts u y us,L[i]? =some (.cells t x ts)->r.H[i]? =some (.cells u y us)->u=t
 Jt: ∀i p,i<L.length->g.J i=some p->g'.J i=some p
 cur: ∀i n u,i<L.length->g.cur i n=some u->g'.cur i n=some u
def xF (P:Program) (f:FuncId) (C:List qK->List qJ->Option qT):Prop:=
 (∀args w,(callFunc f args).run P w= .ok (.enter f args) w)/\
 ∀(g:Gh) (w:q8) (args:List qK) (vals:pW) (L:List qJ) (r:qT),sK g w (r5 0 L)->vG g w args vals->C args L=some r->(∀p∈r.side,p)->
  Calls P f vals.toArray w (fun e w'=> ∃v g',e= .returned v/\GA g w L r g' w' v)
def X4 (P:Program) (f:FuncId) (F:(t:Ty)->List t.den->Option (List t.den)):Prop:=
 ∀(g:Gh) (w:q8) (e:TypeId) (t:Ty) (l l':List t.den) (v:q9) (n:Nat) (xs:pW),FX w->w.ownsRow 0 e t.cells v n xs->uD (Rd g w t) t.cells l xs->l.length=n->n<4611686018427387904->F t l=some l'->
  Calls P f #[v] w (fun en w'=>en= .returned (.tuple #[])/\l'.length=n/\∃xs',w'.ownsRow 0 e t.cells v n xs'/\uD (Rd g w t) t.cells l' xs'/\w.grownBy w' v.ownBlock)
def ET (P:Program) (Γ:tH):Prop:= ∀f s,f<1000000000->Γ f=some s->xF P f s.C/\∀F,s.row=some F->X4 P f F
theorem Na {g:Gh}{w:q8}{t:Ty}{x:t.den}{v:q9}{k:pY}(h:rS g w (.val t x,k) v):rS g w (.val t x,FY t k) v:=by
 refine⟨h.1,?_⟩;cases t with
 |list u=>exact h.2
 |_=>trivial
theorem a5l {t:Ty}{k:pY}: ∀c,FY t k=some c->∃u,t= .list u:=by
 cases t with
 |list u=>exact fun _ _=>⟨u,rfl⟩
 |_=>intro c h;cases h
theorem X5 {g g':Gh}{w:q8}(z:g'.S=g.S) {t:Ty}(hp:t.pure=true) {x:t.den}{v:q9}{k k':pY}(hl: ∀c,k=some c->∃u,t= .list u) (h:rS g w (.val t x,k) v) (F: ∀c,k=some c->∃c',k'=some c'/\∀n u,g.cur c n=some u->g'.cur c' n=some u) (j:k=none->k'=none):rS g' w (.val t x,k') v:=by
 have E:tD g' w t x v:=h.1.imp (fun⟨a,cs,e,q⟩=>⟨a,cs,e,wC z hp q⟩) (fun⟨a,q⟩=>⟨a,wC z hp q⟩);refine⟨E,?_⟩;cases k with
 |none=>rw[j rfl];trivial
 |some c=>
  obtain⟨c',rfl,G⟩:=F c rfl;have D:=h.2;cases t with
  |list u=>exact G _ _ D
  |pair a b=>obtain⟨u,e⟩:=hl c rfl;cases e
  |_=>exact D.elim
section
variable {P:Program}{o:Oper}{a:Act}{g:Gh}{w:q8}{H:sF}{T:sW}{Γ:tH}(hT:xU P T) (hΓ:ET P Γ) (hH:sK g w H)
include hT hΓ hH
theorem io {ti:Option TI}{s:qK}{v:q9}(h:rS g w s v):rS g w (OI ti s) v:=by
 unfold OI;split
 .have:v= .slice none 0 0:=h.1;subst this;exact⟨.inr ⟨rfl,none,0,rfl,aFW _,.inl rfl⟩,trivial⟩
 .have e:v= .nilFunc:=by
   have:=xV rfl h.1;simpa[Rd,JS] using this
  subst e;exact⟨.inr ⟨rfl,.inl ⟨rfl,rfl⟩⟩,trivial⟩
 exact h
theorem X6 {ρ:Operand->qK}: ∀{xs:List Operand}{ts:List TypeId},xs.length=ts.length->(∀x∈xs,rS g w (ρ x) (a.eval x))->vG g w (C8 T ρ xs ts) (xs.map a.eval)
 |[],[],_,_=>rfl
 |x::xs,t::ts,h,j=>⟨_,_,rfl,io hT hΓ hH (j x pR),X6 (by simpa using h) (fun y z=>j y (by simp [z]))⟩
theorem a5m {l m:List qK}{vs us:pW}(h:vG g w l vs) (k:vG g w m us):vG g w (l++m) (vs++us):=by
 induction l generalizing vs with
 |nil=>rw[show vs=[] from h];exact k
 |cons s l ih=>
  obtain⟨v,vs',rfl,z,j⟩:=h;exact⟨v,_,rfl,z,ih j⟩
theorem Nb: ∀{caps:pU}{vs:pW},yZ g caps vs->vG g w (ep caps) vs
 |[],_,h=>h
 |(i,o)::caps,_,⟨p,vs',z,j,h3⟩=>⟨_,_,j,⟨.inr ⟨rfl,p,z,rfl⟩,trivial⟩,Nb h3⟩
end
theorem X7 {P:Program}{o:Oper}{a:Act}{f:FuncId}{fop:Operand}{args:Array Operand}{tys:Array TypeId}(ho:o.op= .call ⟨.value fop,args,tys⟩) {caps:pW}(hf:a.eval fop= .func (.func f) #[] caps.toArray)
  (j: ∀args w,(callFunc f args).run P w= .ok (.enter f args) w) {w:q8}{K:Act->q8->Prop}{Q:Exit->Act->q8->Prop}
  (h:Calls P f ((args.toList.map a.eval)++caps).toArray w (fun e w'=> ∃v,e= .returned v/\K (a.put o.dst v) w')):o.wp P a w K Q:=by
 unfold Oper.wp;have:(execOp a.eval o).run P w= .ok (.enter f ((args.toList.map a.eval)++caps).toArray) w:=by
  unfold execOp;rw[ho];simp only[resolve,hf,Deferred.ofValue,aFM,aF0,aFH,invoke];rw[j];congr 2;apply aGL.1;simp
 rw[this];unfold Oper.upon;refine h.mono fun e w' ⟨v,D,z⟩=>?_;subst D;exact z
def vH (g:Gh):Option rT->Option Pl
 |some (.box i _ _ _ o)=>(g.J i).map fun p=>⟨p.1,p.2+o,p.3⟩
 |some (.tok k)=>g.J k
 |none=>none
def AI (g:Gh):Option rT->Nat->Option q9
 |some (.tok k),n=>g.cur k n
 |_,_=>none
def vI (g:Gh) (ws:List rT):Gh:=⟨g.S,fun c=>vH g ws[c]?,fun c n=>AI g ws[c]? n⟩
def X8 (H:sF) (ws:List rT):rT->qJ->Prop
 | .box i u x toks o,.cells t y ts=>qO H i=some (.cells u x toks)/\rE t u x o=some y/\∀q n,(q,n)∈ts->∃k,ws[n]? =some (.tok k)/\xQ toks (o+q)=some k/\q<t.cells
 | .tok k,.grow e c m=>qO H k=some (.grow e c m)
 | .tok k,.map s t l=>qO H k=some (.map s t l)/\s.pure=true/\t.pure=true
 | .tok k,.row e t l n=>qO H k=some (.row e t l n)/\t.pure=true
 |_,_=>False
structure HV (H:sF) (ws:List rT) (L:List qJ):Prop where
 len:ws.length=L.length
 ok: ∀(c:Nat) wh b,ws[c]? =some wh->L[c]? =some b->X8 H ws wh b
 nodup:(sM ws).Nodup
def ip (ws:List rT) (t:Ty) (x y:t.den):Prop:=(t.pure=true/\y=x)\/CR ws t x=some y
def X9 (H:sF) (ws:List rT):rT->qJ->Prop
 | .box i u x toks o,.cells t y ts=>qO H i=some (.cells u x toks)/\(∃y0,rE t u x o=some y0/\ip ws t y0 y)/\∀q n,(q,n)∈ts->∃k,ws[n]? =some (.tok k)/\xQ toks (o+q)=some k/\q<t.cells
 | .tok k,.grow e c m=>qO H k=some (.grow e c m)
 | .tok k,.map s t l=>qO H k=some (.map s t l)/\s.pure=true/\t.pure=true
 | .tok k,.row e t l n=>qO H k=some (.row e t l n)/\t.pure=true
 |_,_=>False
def P4 {i o:Nat}: ∀{ws:List rT}{c0:Nat}{c q:Nat},DU i o ws c0=some (c,q)->∃d u x toks oc,c=c0+d/\ws[d]? =some (.box i u x toks oc)/\o=oc+q
 |[],_,_,_,h=>by simp [DU] at h
 | .box j u x toks oc::r,c0,c,q,h=>by
  simp only[DU] at h;split at h
  .rename_i D;simp only[aFy,aF3] at h;obtain⟨rfl,rfl⟩:=h;obtain⟨rfl,z⟩:=D;exact⟨0,u,x,toks,oc,rfl,rfl,pP⟩
  .obtain⟨d,u',x',toks',oc',E,z,h3⟩:=P4 h;exact⟨d+1,u',x',toks',oc',pP,by simpa using z,h3⟩
 | .tok k::r,c0,c,q,h=>by
  simp only[DU] at h;obtain⟨d,u',x',toks',oc',E,z,h3⟩:=P4 h;exact⟨d+1,u',x',toks',oc',pP,by simpa using z,h3⟩
def JX {i:Nat}: ∀{ws:List rT}{c0 c:Nat},wA i ws c0=some c->∃d,c=c0+d/\ws[d]? =some (.tok i)
 |[],_,_,h=>by simp [wA] at h
 | .tok j::r,c0,c,h=>by
  simp only[wA] at h;split at h
  .rename_i D;simp only[aFy] at h;subst h;subst D;exact⟨0,rfl,rfl⟩
  .obtain⟨d,E,z⟩:=JX h;exact⟨d+1,pP,by simpa using z⟩
 | .box _ _ _ _ _::r,c0,c,h=>by
  simp only[wA] at h;obtain⟨d,E,z⟩:=JX h;exact⟨d+1,pP,by simpa using z⟩
def iq {α β:Type}{a:Option α}{b:Option β}{p:α×β}(h:G0 a b=some p):a=some p.1/\b=some p.2:=by
 cases a<;>cases b<;>simp [G0] at h
 subst h;exact⟨rfl,rfl⟩
def a5n {x y:Option (Nat×pU)}(h:QU x=some y):y=x/\∀f l,x=some (f,l)->l=[]:=by
 unfold QU at h;split at h
 .cases h;exact⟨rfl,fun _ _ h=>by cases h⟩
 .cases h;exact⟨rfl,fun _ _ h=>by cases h;rfl⟩
 cases h
def a5o {g g':Gh}{x:Option (Nat×pU)}{cs:pW}(j: ∀f l,x=some (f,l)->l=[]) (h:JS g x cs):JS g' x cs:=by
 cases x with
 |none=>exact h
 |some q=>
  obtain⟨f,l⟩:=q;obtain rfl:=j f l rfl;exact h
def XA {g g':Gh}{w:q8}(G:g'.S=g.S) (f:(t:Ty)->t.den->Option t.den)
  (hp: ∀a b x,f (.pair a b) x=G0 (if a.pure=true then some x.1 else f a x.1) (if b.pure=true then some x.2 else f b x.2))
  (hl: ∀t x,f (.list t) x=if t.pure=true then some x else none) (hb: ∀x,f .bool x=some x) (hi: ∀k x,f (.int k) x=some x) (M: ∀x,f .str x=some x) (K: ∀x,f .unit x=some x) (E: ∀x,f .fn x=some x) (z: ∀e t x y cs,f (.rl e t) x=some y->C9 g x cs->C9 g' y cs) (D: ∀x y cs,f .mref x=some y->RK g x cs->RK g' y cs) (F: ∀x y cs,f .ap x=some y->G8 g w x cs->G8 g' w y cs)
  (hr: ∀x y cs,f .ref x=some y->RJ g x cs->RJ g' y cs) (hm: ∀x y cs,f .mp x=some y->MC g x cs->MC g' y cs) (O: ∀x,f .clo x=QU x):
  ∀{t:Ty}{x y:t.den}{cs:pW},Rd g w t x cs->f t x=some y->Rd g' w t y cs
 | .bool,_,_,_,r,h=>by rw[hb] at h;cases h;exact r
 | .int _,_,_,_,r,h=>by rw[hi] at h;cases h;exact r
 | .str,_,_,_,r,h=>by rw[M] at h;cases h;exact r
 | .unit,_,_,_,r,h=>by rw[K] at h;cases h;exact r
 | .rl e t,x,y,_,r,h=>z e t x y _ h r
 | .fn,_,_,_,r,h=>by rw[E] at h;cases h;exact r
 | .mref,x,y,_,r,h=>D x y _ h r
 | .ap,x,y,_,r,h=>F x y _ h r
 | .list t,x,y,_,r,h=>by
  rw[hl] at h;split at h
  .rename_i j;cases h;exact wC G (t:= .list t) (by simpa[Ty.pure] using j) r
  .cases h
 | .ref,x,y,_,r,h=>hr x y _ h r
 | .clo,x,y,_,r,h=>by
  rw[O] at h;obtain⟨rfl,I⟩:=a5n h;exact a5o I r
 | .mp,x,y,_,r,h=>hm x y _ h r
 | .pair a b,x,y,_,⟨c1,c2,e,r1,r2⟩,h=>by
  rw[hp] at h;obtain⟨Q,I⟩:=iq h;refine⟨c1,c2,e,?_,?_⟩
  .split at Q
   .rename_i j;exact(aFE Q)▸wC G j r1
   exact XA G f hp hl hb hi M K E z D F hr hm O r1 Q
  split at I
  .rename_i j;exact(aFE I)▸wC G j r2
  exact XA G f hp hl hb hi M K E z D F hr hm O r2 I
def ir (f:(t:Ty)->t.den->Option t.den)
  (hp: ∀a b x,f (.pair a b) x=G0 (if a.pure=true then some x.1 else f a x.1) (if b.pure=true then some x.2 else f b x.2))
  (hl: ∀t x,f (.list t) x=if t.pure=true then some x else none) {u:Ty}: ∀{t:Ty}{x y:t.den}{o:Nat}{l:List u.den},f t x=some y->rE (.list u) t x o=some l->rE (.list u) t y o=some l:=by
 intro t
 induction t with
 |pair a b iha ihb=>
  intro x y o l h j;rw[hp] at h;obtain⟨E,D⟩:=iq h;have key: ∀z:(Ty.pair a b).den,∀q,rE (.list u) (.pair a b) z q=if q<a.cells then rE (.list u) a z.1 q else rE (.list u) b z.2 (q-a.cells):=by
   intro z q;cases q with
   |zero=>
    conv=>lhs;unfold rE
    rw[aG3 (by intro e;cases e),Nat.zero_sub]
   |succ q=>simp [rE]
  rw[key] at j|-;split
  .rename_i ho;rw[aFz ho] at j;split at E
   .rw[<-aFE E];exact j
   exact iha E j
  .rename_i ho;rw[aFA ho] at j;split at D
   .rw[<-aFE D];exact j
   .exact ihb D j
 |list v=>
  intro x y o l h j;rw[hl] at h;split at h
  .cases h;exact j
  .cases h
 |_=>
  intro x y o l h j;cases o with
  |zero=>
   unfold rE at j;split at j
   .rename_i e;cases e
   .cases j
  |succ o=>simp [rE] at j
def Nc {c n3 n4:Nat}{a:pX}{b d:pY}{y:Nat×Nat×(Nat×Nat)×(Nat×Nat)}(h:V3 c n3 n4 a b d=some y): ∃i k3 k4,a=some (i,0)/\b=some k3/\d=some k4/\y=(c,i,(k3,n3),(k4,n4)):=by
 unfold V3 at h;split at h
 .exact⟨_,_,_,rfl,rfl,rfl,(aFE h).symm⟩
 cases h
def iu {g g':Gh}{w w':q8}{c i k3 k4 n3 n4 i' k3' k4':Nat}{cs:pW}(j: ∀b o,g.S b o->g'.S b o/\w'.cell? ⟨b,o,none⟩=w.cell? ⟨b,o,none⟩) (z: ∀p,g.J i=some p->∃q,g'.J i'=some q/\q.1=p.1/\q.2=p.2) (h3: ∀v,g.cur k3 n3=some v->g'.cur k3' n3=some v) (h4: ∀v,g.cur k4 n4=some v->g'.cur k4' n4=some v)
  (h:G8 g w (c,i,(k3,n3),(k4,n4)) cs):G8 g' w' (c,i',(k3',n3),(k4',n4)) cs:=by
 rcases h with h|⟨h0,b,α,e,s1,s2,a1,a2,a3,a4⟩
 .exact .inl h
 refine .inr ⟨h0,b,α,e,(j _ _ s1).1,(j _ _ s1).2.trans s2,fun q=>?_,fun q=>?_,fun q=>?_,fun q=>?_⟩
 .obtain⟨p,p1,p2⟩:=a1 q;obtain⟨r,r1,r2,r3⟩:=z p p1;exact⟨r,r1,by rw[p2,r2,r3]⟩
 .obtain⟨p,p1,p2⟩:=a2 q;obtain⟨r,r1,r2,r3⟩:=z p p1;exact⟨r,r1,by rw[p2,r2,r3]⟩
 .obtain⟨bb,cap,p1,p2⟩:=a3 q;exact⟨bb,cap,h3 _ p1,p2⟩
 obtain⟨bb,cap,p1,p2⟩:=a4 q;exact⟨bb,cap,h4 _ p1,p2⟩
def a5p {g:Gh}{w:q8}{ws:List rT}{t:Ty}{x y:t.den}{cs:pW}(r:Rd g w t x cs) (h:CR ws t x=some y):Rd (vI g ws) w t y cs:=by
 refine XA (g:=g) (g':=vI g ws) rfl (CR ws) (fun a b x=>rfl) (fun t x=>rfl) (fun _=>rfl) (fun _ _=>rfl) (fun _=>rfl) (fun _=>rfl) (fun _=>rfl) (fun _ _ x y cs h r=>?_) (fun x y cs h r=>?_) (fun x y cs h r=>?_) (fun x y cs h r=>?_) (fun x y cs h r=>?_) (fun _=>rfl) r h
 rotate_left 2
 .obtain⟨c,i,⟨k3,n3⟩,⟨k4,n4⟩⟩:=x;simp only[CR,Jl] at h;obtain⟨i',k3',k4',e1,e2,e3,rfl⟩:=Nc h;obtain⟨d,u,x,toks,oc,rfl,D,h0⟩:=P4 e1;obtain⟨d3,rfl,h3⟩:=JX e2;obtain⟨d4,rfl,h4⟩:=JX e3;obtain rfl:oc=0:=by omega
  refine iu (g:=g) (g':=vI g ws) (fun _ _ h=>⟨h,rfl⟩) (fun p hp=>⟨⟨p.1,p.2+0,p.3⟩,?_,rfl,rfl⟩) (fun v z=>?_) (fun v z=>?_) r
  .show vH g ws[0+d]? =_;rw[aF6,D];simp [vH,hp]
  .show AI g ws[0+d3]? n3=_;rw[aF6,h3];exact z
  show AI g ws[0+d4]? n4=_;rw[aF6,h4];exact z
 rotate_left 2
 .cases x with
  |none=>cases h;exact r
  |some q=>
   obtain⟨k,n⟩:=q;simp only[CR,Jk] at h;cases j:wA k ws 0 with
   |none=>rw[j] at h;cases h
   |some c=>
    rw[j] at h;cases h;obtain⟨d,rfl,D⟩:=JX j;obtain⟨v,z,E⟩:=r;refine⟨v,?_,E⟩;show AI g ws[0+d]? n=_;rw[aF6,D];exact z
 .cases x with
  |none=>cases h;exact r
  |some q=>
   obtain⟨i,o⟩:=q;simp only[CR,V2] at h;cases j:DU i o ws 0 with
   |none=>rw[j] at h;cases h
   |some q=>
    obtain⟨c,q⟩:=q;rw[j] at h;cases h;obtain⟨d,u,x,toks,oc,rfl,D,rfl⟩:=P4 j;obtain⟨p,hp,z⟩:=r;refine⟨⟨p.1,p.2+oc,p.3⟩,?_,by have:=z.1;rwa [<-aGj] at this,z.2.imp id fun z=>by rw[z];simp [aGj]⟩;show vH g ws[0+d]? =_;rw[aF6,D];simp [vH,hp]
 .cases x with
  |none=>cases h;exact r
  |some q=>
   obtain⟨i,o⟩:=q;simp only[CR,V2] at h;cases j:DU i o ws 0 with
   |none=>rw[j] at h;cases h
   |some q=>
    obtain⟨c,q⟩:=q;rw[j] at h;cases h;obtain⟨d,u,x,toks,oc,rfl,D,rfl⟩:=P4 j;obtain⟨p,hp,z⟩:=r;refine⟨⟨p.1,p.2+oc,p.3⟩,?_,by rw[z];simp [aGj]⟩;show vH g ws[0+d]? =_;rw[aF6,D];simp [vH,hp]
 cases x with
 |none=>cases h;exact r
 |some i=>
  simp only[CR,Jj] at h;cases j:wA i ws 0 with
  |none=>rw[j] at h;cases h
  |some c=>
   rw[j] at h;cases h;obtain⟨d,rfl,D⟩:=JX j;obtain⟨p,hp,z⟩:=r;refine⟨p,?_,z⟩;show vH g ws[0+d]? =_;rw[aF6,D];exact hp
def a5q {g:Gh}{w:q8}{ws:List rT}{t:Ty}{x y:t.den}{cs:pW}(h:ip ws t x y) (r:Rd g w t x cs):Rd (vI g ws) w t y cs:=by
 rcases h with⟨hp,rfl⟩ |h
 .exact wC (g:=g) (g':=vI g ws) rfl hp r
 exact a5p r h
def a5r {ws:List rT}{t u:Ty}{x y:t.den}{o:Nat}{l:List u.den}(h:ip ws t x y) (j:rE (.list u) t x o=some l):rE (.list u) t y o=some l:=by
 rcases h with⟨_,rfl⟩ |h
 .exact j
 exact ir (CR ws) (fun _ _ _=>rfl) (fun _ _=>rfl) h j
structure RW (H:sF) (ws:List rT) (L:List qJ):Prop where
 len:ws.length=L.length
 ok: ∀(c:Nat) wh b,ws[c]? =some wh->L[c]? =some b->X9 H ws wh b
 nodup:(sM ws).Nodup
def iw: ∀(ws:List rT) (c:Nat),(sM ws)[c]? =(ws[c]?).map rT.id
 |[],c=>by simp [sM]
 |w::ws,0=>rfl
 |w::ws,c+1=>by simpa[sM] using iw ws c
def JY: ∀ws ws':List rT,sM (ws++ws')=sM ws++sM ws'
 |[],_=>rfl
 |w::ws,ws'=>by simp [sM,JY ws ws']
def HW: ∀{i:Nat}{l:pZ},AP i l=true↔i∈l
 |i,[]=>by simp [AP]
 |i,j::r=>by
  simp only[AP,aFN];by_cases h:i=j
  .simp [h]
  rw[aFA h,HW];simp [h]
def XB {ws:List rT}(h:(sM ws).Nodup) {c c':Nat}{x y:rT}(z:ws[c]? =some x) (j:ws[c']? =some y) (D:x.id=y.id):c=c':=by
 have F:(sM ws)[c]? =some x.id:=by rw[iw,z];rfl
 have E:(sM ws)[c']? =some x.id:=by rw[iw,j,D];rfl
 obtain⟨l1,e1⟩:=aFP.1 F;obtain⟨l2,e2⟩:=aFP.1 E;have hp:=aGf.1 h;rcases Nat.lt_trichotomy c c' with h3|h3|h3
 .exact absurd (e1.trans e2.symm) (hp c c' l1 l2 h3)
 .exact h3
 exact absurd (e2.trans e1.symm) (hp c' c l2 l1 h3)
def Nd: ∀{toks:pU}{q k:Nat},xQ toks q=some k->(q,k)∈toks
 |[],_,_,h=>by simp [xQ] at h
 |(q',k')::r,q,k,h=>by
  simp only[xQ] at h;split at h
  .rename_i e;subst e;simp only[aFy] at h;subst h;simp
  exact aFK _ (Nd h)
def a5s {v t:Ty}: ∀{u:Ty}{x:u.den}{o q:Nat}{y:t.den}{l:(Ty.list v).den},rE t u x o=some y->rE (.list v) u x (o+q)=some l->q<t.cells->rE (.list v) t y q=some l:=by
 intro u
 induction u with
 |pair a b iha ihb=>
  intro x o q y l h g hq;by_cases j:o=0/\t= .pair a b
  .obtain⟨rfl,rfl⟩:=j;unfold rE at h;rw[aHB rfl] at h;simp only[uG,aFy] at h;subst h;simpa using g
  .have keyh:(if o<a.cells then rE t a x.1 o else rE t b x.2 (o-a.cells))=some y:=by
    cases o with
    |zero=>
     unfold rE at h;rw[aG3 (fun e=>j ⟨rfl,e.symm⟩)] at h;simpa using h
    |succ o=>simpa[rE] using h
   have keyg: ∀z,rE (.list v) (.pair a b) x z=(if z<a.cells then rE (.list v) a x.1 z else rE (.list v) b x.2 (z-a.cells)):=by
    intro z;cases z with
    |zero=>
     conv=>lhs;unfold rE
     rw[aG3 (by intro e;cases e),Nat.zero_sub]
    |succ z=>simp [rE]
   rw[keyg] at g;by_cases ho:o<a.cells
   .rw[aFz ho] at keyh;have D:o+t.cells<=a.cells:=by
     have: ∀{u:Ty}{x:u.den}{o:Nat}{y:t.den},rE t u x o=some y->o+t.cells<=u.cells:=by
      intro u
      induction u with
      |pair a b iha ihb=>
       intro x o y h;have key: ∀o,(if o<a.cells then rE t a x.1 o else rE t b x.2 (o-a.cells))=some y->o+t.cells<=a.cells+b.cells:=by
        intro o h;by_cases ho:o<a.cells
        .rw[aFz ho] at h;have:=iha h;omega
        rw[aFA ho] at h;have:=ihb h;omega
       cases o with
       |zero=>
        unfold rE at h;split at h
        .rename_i e;subst e;simp
        .exact key 0 (by simpa using h)
       |succ o=>exact key (o+1) (by simpa[rE] using h)
      |_=>
       intro x o y h;cases o with
       |zero=>
        unfold rE at h;split at h
        .rename_i e;subst e;simp
        .simp at h
       |succ o=>simp [rE] at h
     exact this keyh
    rw[aFz pP] at g;exact iha keyh g hq
   .rw[aFA ho] at keyh;rw[aFA pP,show o+q-a.cells=o-a.cells+q from by omega] at g;exact ihb keyh g hq
 |_=>
  intro x o q y l h g hq;cases o with
  |zero=>
   unfold rE at h;split at h
   .rename_i e;subst e;simp only[uG,aFy] at h
    try subst h
    simpa using g
   .simp at h
  |succ o=>simp [rE] at h
def a5t {g:Gh}{w:q8}{H:sF}{ws:List rT}{L:List qJ}(hH:sK g w H) (hm:RW H ws L):sK (vI g ws) w (r5 0 L):=by
 have wsL: ∀c b,qO (r5 0 L) c=some b->∃wh,ws[c]? =some wh/\X9 H ws wh b:=by
  intro c b h;rw[xY] at h;have X:c<ws.length:=hm.len▸(aFP.1 h).1;exact⟨ws[c],aFG X,hm.ok c _ b (aFG X) h⟩
 have own: ∀c b wh,ws[c]? =some wh->X9 H ws wh b->∀bb oo,sH (vI g ws) c b bb oo->∃blk,qO H wh.id=some blk/\sH g wh.id blk bb oo:=by
  intro c b wh z hw bb oo ho;cases wh with
  |box i u x toks off=>
   cases b with
   |cells t y ts=>
    obtain⟨R,⟨y0,Q,h3⟩,h4⟩:=hw;obtain⟨p,hp,e1,e2,e3⟩:=ho;have E:vH g ws[c]? =some p:=hp;rw[z] at E;obtain⟨p0,O,rfl⟩:=aFQ.1 E;obtain⟨p1,cs,hu,U,_⟩:=hH.blk i _ R;obtain⟨c1,c2,c3,ht,hl,I⟩:=CA U Q;have l1:=sZ U;have l2:=sZ I;rw[ht] at l1;simp only[aFD] at l1;exact⟨_,R,p0,O,e1,by simp at e2;omega,by simp at e3;omega⟩
   |_=>exact hw.elim
  |tok k=>
   cases b with
   |grow e cc m=>
    obtain⟨v,G,hb⟩:=ho;have D:AI g ws[c]? m=some v:=G;rw[z] at D;exact⟨_,hw,v,D,hb⟩
   |map s t l=>
    obtain⟨p,hp,hb⟩:=ho;have E:vH g ws[c]? =some p:=hp;rw[z] at E;exact⟨_,hw.1,p,E,hb⟩
   |row e t l m=>
    obtain⟨v,G,hb⟩:=ho;have D:AI g ws[c]? m=some v:=G;rw[z] at D;exact⟨_,hw.1,v,D,hb⟩
   |_=>exact hw.elim
 refine⟨fun c b h=>?_,fun c c' b b' bb oo hg R Q o1 o2=>?_,hH.sl,hH.tab.1,fun c b bb oo h ho=>?_⟩
 rotate_right
 .obtain⟨wh,z,hw⟩:=wsL c b h;obtain⟨k1,g1,p1⟩:=own c b wh z hw bb oo ho;exact hH.tab.2 _ _ bb oo g1 p1
 .obtain⟨wh,z,hw⟩:=wsL c b h;cases wh with
  |box i u x toks off=>
   cases b with
   |cells t y ts=>
    obtain⟨R,⟨y0,Q,h3⟩,h4⟩:=hw;obtain⟨p,cs,hp,U,hd,V,he,hc⟩:=hH.blk i _ R;obtain⟨c1,c2,c3,rfl,rfl,I⟩:=CA U Q;have l1:=sZ U;have l2:=sZ I;simp only[aFD] at l1;refine⟨⟨p.1,p.2+c1.length,p.3⟩,c2,?_,a5q h3 I,fun j v G=>?_,⟨fun j hj=>?_,fun h0 s M=>V.2 pP s M⟩,fun j hj M=>?_,fun q n F=>?_⟩
    .show vH g ws[c]? =_;rw[z];simp [vH,hp]
    .have:=hd (c1.length+j) v (by
      have hk:=(aFP.1 G).1;rw[aFO,aFJ pP,aGo,aFU hk];exact G)
     rw[aGj];exact this
    .have:=V.1 (c1.length+j) pP;rw[aGj];exact this
    .exact he (c1.length+j) pP (by rw[<-aGj];exact M)
    .obtain⟨k,k1,k2,k3⟩:=h4 q n F;have Y:(c1.length+q,k)∈toks:=Nd k2;obtain⟨u',l,v,g1,g2,g3⟩:=hc _ _ Y;refine⟨u',l,v,a5r h3 (a5s Q g1 k3),?_,?_⟩
     .rw[aFO,aFJ pP,aGo,aFU pP] at g2;exact g2
     .show AI g ws[n]? _=_;rw[k1];exact g3
   |_=>exact hw.elim
  |tok k=>
   cases b with
   |grow e cc m=>
    have e1:(vI g ws).cur c=g.cur k:=by
     funext n;show AI g ws[c]? n=_;rw[z];rfl
    obtain⟨v,xs,G,hr,Z,M⟩:=hH.blk k _ hw;exact⟨v,xs,by rw[e1];exact G,hr,fun m F=>by rw[e1];exact Z m F,M⟩
   |map s t l=>
    obtain⟨p,es,cl,hp,O,hh,hM,hS⟩:=hH.blk k _ hw.1;refine⟨p,es,cl,?_,O,hh,RM (g:=g) (g':=vI g ws) rfl hw.2.1 hw.2.2 hM,hS⟩;show vH g ws[c]? =_;rw[z];exact hp
   |row e t l m=>
    have e1:(vI g ws).cur c=g.cur k:=by
     funext n;show AI g ws[c]? n=_;rw[z];rfl
    obtain⟨hl,v,xs,G,hr,hF,Z,M⟩:=hH.blk k _ hw.1;exact⟨hl,v,xs,by rw[e1];exact G,hr,CX (fun _ _ h=>wC (g:=g) (g':=vI g ws) rfl hw.2 h) hF,fun m F=>by rw[e1];exact Z m F,M⟩
   |_=>exact hw.elim
 obtain⟨wh,z,hw⟩:=wsL c b R;obtain⟨wh',K,ha⟩:=wsL c' b' Q;obtain⟨k1,g1,p1⟩:=own c b wh z hw bb oo o1;obtain⟨k2,g2,p2⟩:=own c' b' wh' K ha bb oo o2;exact hH.dis wh.id wh'.id k1 k2 bb oo (fun e=>hg (XB hm.nodup z K e)) g1 g2 p1 p2
def Nf {H:sF}{ws more:List rT}: ∀{wh:rT}{b:qJ},X8 H ws wh b->X8 H (ws++more) wh b
 | .box _ _ _ _ _,.cells _ _ _,⟨z,j,h4⟩=>⟨z,j,fun q n h=>let ⟨k,k1,k2⟩:=h4 q n h;⟨k,by rw[aFU (aFP.1 k1).1];exact k1,k2⟩⟩
 | .box _ _ _ _ _,.grow _ _ _,h=>h.elim
 | .box _ _ _ _ _,.dead,h=>h.elim
 | .box _ _ _ _ _,.row _ _ _ _,h=>h.elim
 | .box _ _ _ _ _,.map _ _ _,h=>h.elim
 | .box _ _ _ _ _,.iter _ _,h=>h.elim
 | .tok _,.iter _ _,h=>h.elim
 | .tok _,.row _ _ _ _,h=>h
 | .tok _,.grow _ _ _,h=>h
 | .tok _,.map _ _ _,h=>h
 | .tok _,.cells _ _ _,h=>h.elim
 | .tok _,.dead,h=>h.elim
def MM (g:Gh) (w:q8) (ws more:List rT):Le (vI g ws) w (vI g (ws++more)) w:=by
 refine⟨fun _ _ h=>h,fun _ _ _=>rfl,fun c p h=>?_,fun c n v h=>?_⟩
 .have j:vH g ws[c]? =some p:=h;show vH g (ws++more)[c]? =some p;cases z:ws[c]? with
  |none=>rw[z] at j;cases j
  |some wh=>rw[aFU (aFP.1 z).1];exact j
 have j:AI g ws[c]? n=some v:=h;show AI g (ws++more)[c]? n=some v;cases z:ws[c]? with
 |none=>rw[z] at j;cases j
 |some wh=>rw[aFU (aFP.1 z).1];exact j
def MN {g g':Gh}{w w':q8}(h:Le g w g' w'): ∀{ss:List qK}{vs:pW},vG g w ss vs->vG g' w' ss vs
 |[],_,r=>r
 |_::_,_,⟨v,vs',e,r1,r2⟩=>⟨v,vs',e,DX h r1,MN h r2⟩
def EU {g:Gh}{w:q8}: ∀{ss:List qK}{vs:pW}{s:qK}{v:q9},vG g w ss vs->rS g w s v->vG g w (ss++[s]) (vs++[v])
 |[],_,_,_,h,k=>by rw[show _=[] from h];exact⟨_,_,rfl,k,rfl⟩
 |_::_,_,_,_,⟨v,vs',e,r1,r2⟩,k=>⟨v,vs'++_,by rw[e];rfl,r1,EU r2 k⟩
def HV.tok {H:sF}{ws:List rT}{L:List qJ}(h:HV H ws L) {k:Nat}{b0:qJ}(E:X8 H (ws++[.tok k]) (.tok k) b0) (D:k∉sM ws):HV H (ws++[.tok k]) (L++[b0]):=by
 refine⟨by simp [h.len],fun i wh b j z=>?_,?_⟩
 .by_cases hi:i<ws.length
  .rw[aFU hi] at j;rw[aFU (h.len▸hi)] at z;exact Nf (h.ok i wh b j z)
  rw[aFJ pP] at j;rw[aFJ (by rw[<-h.len];omega),<-h.len] at z;obtain⟨d,F⟩: ∃d,i-ws.length=d:=⟨_,rfl⟩;rw[F] at j z;cases d with
  |zero=>
   simp only[aF8,aFy] at j z;subst j;subst z;exact E
  |succ d=>simp at j
 rw[JY];exact List.nodup_append.2 ⟨h.nodup,by simp [sM],fun a G b hb=>by
  simp only[sM,rT.id,aFR] at hb;subst hb;intro e;exact D (e▸G)⟩
def Ng: ∀{os:pZ}{n q m:Nat},(q,m)∈LO os n->∃j:Nat,os[j]? =some q/\m=n+j
 |[],_,_,_,h=>by simp [LO] at h
 |q'::os,n,q,m,h=>by
  simp only[LO,aFN,aF3] at h;rcases h with⟨rfl,rfl⟩ |h
  .exact⟨0,rfl,rfl⟩
  obtain⟨j,z,D⟩:=Ng h;exact⟨j+1,by simpa using z,pP⟩
def Nh {n:Nat}: ∀{os:pZ}{j q:Nat},OK n os=true->os[j]? =some q->q<n
 |[],_,_,_,h=>by simp at h
 |q'::os,0,q,h,z=>by
  simp only[OK,aFL,aFI] at h;simp only[aF8,aFy] at z;exact z▸h.1
 |q'::os,j+1,q,h,z=>by
  simp only[OK,aFL] at h;exact Nh h.2 (by simpa using z)
def XC {H:sF}{toks:pU}{o:Nat}: ∀{os:pZ}{a a':t8},zI H toks o os (some a)=some a'->
  ∃(ks:pZ) (bs:List qJ),ks.length=os.length/\bs.length=os.length/\a'.args=a.args/\a'.H.reverse=a.H.reverse++bs/\a'.ws.reverse=a.ws.reverse++ks.map rT.tok/\a'.n=a.n+os.length/\
   (∀(j:Nat) q k,os[j]? =some q->ks[j]? =some k->xQ toks (o+q)=some k)/\(∀(j:Nat) k b,ks[j]? =some k->bs[j]? =some b->qO H k=some b/\∃e c m,b= .grow e c m)/\(∀k∈ks,k∉sM a.ws.reverse)/\ks.Nodup
 |[],a,a',h=>by
  simp only[zI,aFy] at h;subst h;exact⟨[],[],rfl,rfl,rfl,by simp,by simp,rfl,by simp,by simp,by simp,by simp⟩
 |q::os,a,a',h=>by
  simp only[zI] at h;have none_no: ∀os,zI H toks o os none=none:=by
   intro os
   induction os with
   |nil=>rfl
   |cons q os ih=>
    have:AB H (xQ toks (o+q)) none=none:=by
     cases xQ toks (o+q) with
     |none=>rfl
     |some k=>simp only[AB];cases qO H k with
      |none=>rfl
      |some b=>cases b<;>rfl
    simp only[zI,this,ih]
  cases F:xQ toks (o+q) with
  |none=>rw[F] at h;simp only[AB,none_no] at h;cases h
  |some k=>
   rw[F] at h;simp only[AB] at h;cases hb:qO H k with
   |none=>rw[hb] at h;simp only[CN,none_no] at h;cases h
   |some b=>
    rw[hb] at h;cases b with
    |grow e c m=>
     simp only[CN] at h;by_cases hm:AP k (sM a.ws)=true
     .rw[aFz hm,none_no] at h;cases h
     .rw[aFA hm] at h;obtain⟨ks,bs,U,R,h3,h4,K,Q,O,M,G,I⟩:=XC h;simp only[aGi] at h4 K G;have E: ∀ws:List rT,∀i,i∈sM ws.reverse↔i∈sM ws:=by
       intro ws i
       induction ws with
       |nil=>simp
       |cons x r ih=>rw[aGi,JY];simp [sM,ih,or_comm]
      refine⟨k::ks,.grow e c m::bs,by simp [U],by simp [R],h3,by rw[h4];simp,by rw[K];simp,by rw[Q];simp;omega,fun j q' k'=>?_,fun j k' b'=>?_,fun k' D=>?_,?_⟩
      .cases j with
       |zero=>intro e1 e2;simp only[aF8,aFy] at e1 e2;subst e1;subst e2;exact F
       |succ j=>intro e1 e2;exact O j q' k' (by simpa using e1) (by simpa using e2)
      .cases j with
       |zero=>intro e1 e2;simp only[aF8,aFy] at e1 e2;subst e1;subst e2;exact⟨hb,_,_,_,rfl⟩
       |succ j=>intro e1 e2;exact M j k' b' (by simpa using e1) (by simpa using e2)
      .rcases aFN.1 D with rfl|D
       .rw[E];exact fun z=>hm (HW.2 z)
       intro z;exact G k' D (by rw[JY];exact List.mem_append_left _ z)
      .refine List.nodup_cons.2 ⟨fun z=>G k z (by rw[JY];simp [sM,rT.id]),I⟩
    |cells t y ts=>simp only[CN,none_no] at h;cases h
    |row=>simp only[CN,none_no] at h;cases h
    |map=>simp only[CN,none_no] at h;cases h
    |iter=>simp only[CN,none_no] at h;cases h
    |dead=>simp only[CN,none_no] at h;cases h
def Ni: ∀ks:pZ,sM (ks.map rT.tok)=ks
 |[]=>rfl
 |k::ks=>by simp [sM,rT.id,Ni ks]
def HV.box {H:sF}{ws:List rT}{L:List qJ}(h:HV H ws L) {t u:Ty}{x:u.den}{y:t.den}{toks:pU}{i o:Nat}{os ks:pZ}{bs:List qJ}(hi:qO H i=some (.cells u x toks)) (R:rE t u x o=some y) (I:OK t.cells os=true) (U:i∉sM ws)
  (Q:ks.length=os.length) (h2:bs.length=os.length) (h7: ∀(j:Nat) q k,os[j]? =some q->ks[j]? =some k->xQ toks (o+q)=some k) (Z: ∀(j:Nat) k b,ks[j]? =some k->bs[j]? =some b->qO H k=some b/\∃e c m,b= .grow e c m) (Y: ∀k∈ks,k∉sM (ws++[.box i u x toks o])) (M:ks.Nodup):
  HV H ((ws++[.box i u x toks o])++ks.map rT.tok) ((L++[.cells t y (LO os (ws.length+1))])++bs):=by
 have z:(ws++[rT.box i u x toks o]).length=ws.length+1:=by simp
 have D:(L++[qJ.cells t y (LO os (ws.length+1))]).length=ws.length+1:=by simp [h.len]
 refine⟨by simp [h.len,Q,h2],fun c wh b e1 e2=>?_,?_⟩
 .by_cases O:c<ws.length
  .rw[aFU pP,aFU O] at e1;rw[aFU pP,aFU (h.len▸O)] at e2;rw[aFO];exact Nf (h.ok c wh b e1 e2)
  by_cases K:c=ws.length
  .subst K;rw[aFU pP,aFJ (aFW _),aG8] at e1;rw[aFU pP,aFJ (by rw[h.len];exact aFW _),h.len,aG8] at e2;simp only[aF8,aFy] at e1 e2;subst e1;subst e2;refine⟨hi,R,fun q n hm=>?_⟩;rw[<-h.len] at hm;obtain⟨j,F,rfl⟩:=Ng hm;have E:j<ks.length:=by rw[Q];exact(aFP.1 F).1
   refine⟨ks[j],?_,h7 j q _ F (aFG E),Nh I F⟩;rw[aFJ pP,z,show ws.length+1+j- (ws.length+1)=j from by omega];simp [E]
  rw[aFJ pP,z] at e1;rw[aFJ pP,D] at e2;rw[List.getElem?_map] at e1;obtain⟨k,V,rfl⟩:=aFQ.1 e1;obtain⟨X,e,cc,m,rfl⟩:=Z _ k b V e2;exact X
 rw[JY,Ni];refine List.nodup_append.2 ⟨?_,M,fun a G b hb e=>Y b hb (e▸G)⟩;rw[JY];exact List.nodup_append.2 ⟨h.nodup,by simp [sM],fun a G b hb=>by
  simp only[sM,rT.id,aFR] at hb;subst hb;intro e;exact U (e▸G)⟩
def RX (ws:List rT) (i:Nat):i∈sM ws.reverse↔i∈sM ws:=by
 induction ws with
 |nil=>simp
 |cons x r ih=>rw[aGi,JY];simp [sM,ih,or_comm]
structure CD (g:Gh) (w:q8) (H:sF) (vals:pW) (a:t8):Prop where
 n:a.n=a.ws.reverse.length
 m:HV H a.ws.reverse a.H.reverse
 args:vG (vI g a.ws.reverse) w a.args.reverse vals
def a5u {g:Gh}{w:q8}{ws:List rT}{t:Ty}(hp:t.pure=true) {x:t.den}{v:q9}{k:pY}(h:rS g w (.val t x,k) v):rS (vI g ws) w (.val t x,none) v:=
 ⟨h.1.imp (fun⟨a,cs,e,q⟩=>⟨a,cs,e,wC (g:=g) (g':=vI g ws) rfl hp q⟩) (fun⟨a,q⟩=>⟨a,wC (g:=g) (g':=vI g ws) rfl hp q⟩),trivial⟩
def a5v {H:sF}{k:pY}{a b:t8}{l m:List qK}(h:AB H k (some ⟨l,a.H,a.ws,a.n⟩)=some b):b.args=l/\AB H k (some ⟨m,a.H,a.ws,a.n⟩)=some ⟨m,b.H,b.ws,b.n⟩:=by
 cases k with
 |none=>cases h
 |some k=>
  simp only[AB] at h|-;cases hb:qO H k with
  |none=>rw[hb] at h;simp [CN] at h
  |some bl=>
   rw[hb] at h;cases bl with
   |grow e c n=>
    simp only[CN] at h|-;split at h
    .cases h
    .rename_i j;rw[aFA j];cases h;exact⟨rfl,rfl⟩
   |_=>simp [CN] at h
def Nj {H:sF}{toks:pU}{o:Nat}{m:List qK}: ∀{os:pZ}{a b:t8},zI H toks o os (some a)=some b->b.args=a.args/\zI H toks o os (some ⟨m,a.H,a.ws,a.n⟩)=some ⟨m,b.H,b.ws,b.n⟩
 |[],a,b,h=>by simp only[zI,aFy] at h;subst h;exact⟨rfl,rfl⟩
 |q::os,a,b,h=>by
  simp only[zI] at h|-;have none_no: ∀os,zI H toks o os none=none:=by
   intro os
   induction os with
   |nil=>rfl
   |cons q os ih=>
    have:AB H (xQ toks (o+q)) none=none:=by
     cases xQ toks (o+q) with
     |none=>rfl
     |some k=>simp only[AB];cases qO H k with
      |none=>rfl
      |some b=>cases b<;>rfl
    simp only[zI,this,ih]
  cases hm:AB H (xQ toks (o+q)) (some a) with
  |none=>rw[hm,none_no] at h;cases h
  |some c=>
   rw[hm] at h;obtain⟨z,j⟩:=a5v (a:=a) (l:=a.args) (m:=m) hm;obtain⟨h3,h4⟩:=Nj (m:=m) h;rw[j];exact⟨h3.trans z,h4⟩
def a5w {H:sF}{t:Ty}{os:pZ}{i o:Nat}{a b:t8}{m:List qK}(h:w9 H t os i o a (qO H i)=some b):w9 H t os i o ⟨m,a.H,a.ws,a.n⟩ (qO H i)=some ⟨(.val .ref (some (a.n,0)),none)::m,b.H,b.ws,b.n⟩:=by
 cases hb:qO H i with
 |none=>rw[hb] at h;simp [w9] at h
 |some bl=>
  rw[hb] at h;cases bl with
  |cells u x toks=>
   simp only[w9] at h|-;cases j:rE t u x o with
   |none=>rw[j] at h;simp [FZ] at h
   |some y=>
    rw[j] at h;simp only[FZ] at h|-;split at h
    .rename_i z;rw[aFz z];exact(Nj (m:=(.val .ref (some (a.n,0)),none)::m) h).2
    .cases h
  |_=>simp [w9] at h
def Nk {g:Gh}{i o:Nat}{p:Pl}{v:q9}: ∀{l:pU}{vs:pW},yZ g l vs->g.J i=some p->v= .pointer (some ⟨p.1,p.2+o,none⟩)->yZ g (l++[(i,o)]) (vs++[v])
 |[],vs,h,hp,j=>by rw[show vs=[] from h];exact⟨p,[],hp,by rw[j];rfl,rfl⟩
 |(_,_)::l,vs,⟨q,vs',D,z,h3⟩,hp,j=>⟨q,vs'++[v],D,by rw[z];rfl,Nk h3 hp j⟩
def iy {α:Type}: ∀(l acc:List α),zP l acc=l.reverse++acc
 |[],_=>rfl
 |x::l,acc=>by simp [zP,iy l]
def Nl {g:Gh}{w:q8}{H:sF}(hH:sK g w H) {t:Ty}{os:pZ}{i o:Nat}{vals:pW}{a a':t8}(j:CD g w H vals a) {p:Pl}(hp:g.J i=some p) (h:w9 H t os i o a (qO H i)=some a'):
  CD g w H vals ⟨a.args,a'.H,a'.ws,a'.n⟩/\∃more,a'.ws.reverse=a.ws.reverse++more/\a'.args=(.val .ref (some (a.n,0)),none)::a.args/\(vI g a'.ws.reverse).J a.n=some ⟨p.1,p.2+o,p.3⟩:=by
 cases hb:qO H i with
 |none=>rw[hb] at h;simp [w9] at h
 |some b=>
  rw[hb] at h;cases b with
  |cells u x toks=>
   simp only[w9] at h;cases E:rE t u x o with
   |none=>rw[E] at h;simp [FZ] at h
   |some y=>
    rw[E] at h;simp only[FZ] at h;split at h
    .rename_i F;simp only[aFL,aF2] at F;obtain⟨ks,bs,O,U,h3,h4,D,M,R,Q,K,I⟩:=XC h;simp only[aGi] at h3 h4 D M K;have G:i∉sM a.ws.reverse:=fun z=>by
      have:=HW.2 ((RX _ _).1 z);rw[F.2] at this;cases this
     have e5:a'.ws.reverse=a.ws.reverse++([rT.box i u x toks o]++ks.map rT.tok):=by rw[D];simp only[aFO]
     refine⟨⟨by rw[M];simp only;rw[D,j.n];simp [O];omega,?_,?_⟩,_,e5,h3,?_⟩
     .simp only;rw[h4,D,j.n];exact j.m.box hb E F.1 G O U R Q K I
     .simp only;rw[e5];exact MN (MM g w _ _) j.args
     show vH g a'.ws.reverse[a.n]? =_;rw[e5,j.n,aFJ (aFW _),aG8];show (g.J i).map _=_;rw[hp];rfl
    .cases h
  |grow=>simp [w9] at h
  |row=>simp [w9] at h
  |map=>simp [w9] at h
  |iter=>simp [w9] at h
  |dead=>simp [w9] at h
def Nm {H:sF}{f:FuncId}{args0:List qK}: ∀{ks:List (Ty×pZ)}{cs ids:pU}{a a':t8},yC H f args0 ks cs ids (some a)=some a'->∃s more,a'.args=s::args0/\a'.ws.reverse=a.ws.reverse++more
 |[],[],ids,a,a',h=>by
  simp only[yC,aFy] at h;subst h;exact⟨_,[],rfl,by simp⟩
 |[],_::_,_,_,_,h=>by simp [yC] at h
 |_::_,[],_,_,_,h=>by simp [yC] at h
 |(t,os)::ks,(i,o)::cs,ids,a,a',h=>by
  simp only[yC] at h;cases hb:w9 H t os i o a (qO H i) with
  |none=>rw[hb] at h;cases ks<;>cases cs<;>simp [yC] at h
  |some b=>
   rw[hb] at h;obtain⟨s,more,D,z⟩:=Nm h;obtain⟨more0,h3⟩: ∃more0,b.ws.reverse=a.ws.reverse++more0:=by
    unfold w9 at hb;split at hb
    .unfold FZ at hb;split at hb
     .split at hb
      .obtain⟨ks,bs,_,_,_,_,j,_⟩:=XC hb;exact⟨_,by rw[j];simp only[aGi];exact aFO ..⟩
      cases hb
     cases hb
    cases hb
   exact⟨s,more0++more,D,by rw[z,h3,aFO]⟩
def Nn {g:Gh}{w:q8}{H:sF}(hH:sK g w H) {f:FuncId}{args0:List qK}{vals:pW}: ∀{ks:List (Ty×pZ)}{cs:pU}{ids:pU}{vs us:pW}{a a':t8},CD g w H vals ⟨args0,a.H,a.ws,a.n⟩->
  yZ g cs vs->yZ (vI g a.ws.reverse) ids.reverse us->yC H f args0 ks cs ids (some a)=some a'->
  CD g w H vals ⟨args0,a'.H,a'.ws,a'.n⟩/\∃ids',a'.args=(.val .clo (some (f,ids')),none)::args0/\(∃more,a'.ws.reverse=a.ws.reverse++more)/\yZ (vI g a'.ws.reverse) ids' (us++vs)
 |[],[],ids,vs,us,a,a',D,K,z,h=>by
  simp only[yC,iy,List.append_nil,aFy] at h;subst h;rw[show vs=[] from K,List.append_nil];exact⟨D,_,rfl,⟨[],by simp⟩,z⟩
 |[],_::_,_,_,_,_,_,_,_,_,h=>by simp [yC] at h
 |_::_,[],_,_,_,_,_,_,_,_,h=>by simp [yC] at h
 |(t,os)::ks,(i,o)::cs,ids,vs,us,a,a',D,⟨p,vs',hp,F,E⟩,z,h=>by
  simp only[yC] at h;cases hb:w9 H t os i o a (qO H i) with
  |none=>rw[hb] at h;cases ks<;>cases cs<;>simp [yC] at h
  |some b=>
   rw[hb] at h;have I:w9 H t os i o ⟨args0,a.H,a.ws,a.n⟩ (qO H i)=some ⟨(.val .ref (some (a.n,0)),none)::args0,b.H,b.ws,b.n⟩:=a5w hb;obtain⟨q1,more,q2,q3,q4⟩:=Nl hH D hp I;simp only at q1 q2 q3 q4;have j:=MM g w a.ws.reverse more;rw[<-q2] at j;have G:yZ (vI g b.ws.reverse) ((a.n,0)::ids).reverse (us++[.pointer (some ⟨p.1,p.2+o,none⟩)]):=by
    simp only[aGi];exact Nk (fy j.J z) q4 pR
   obtain⟨z1,ids',z2,⟨more',z3⟩,z4⟩:=Nn hH (a:=b) q1 E G h;refine⟨z1,ids',z2,⟨more++more',by rw[z3,q2,aFO]⟩,?_⟩;rw[F];rw[aFO] at z4;exact z4
def No {g:Gh}{w:q8}{H:sF}(hH:sK g w H) {p:PK}{s:qK}{v:q9}{vals:pW}{a a':t8}(j:CD g w H vals a) (G:rS g w s v) (h:yD H a p s=some a'):CD g w H (vals++[v]) a':=by
 unfold yD at h;split at h
 .rename_i f k;simp only[V0,aFy] at h;subst h;refine⟨j.n,j.m,?_⟩;simp only[aGi];refine EU j.args ⟨?_,trivial⟩;rcases G.1 with⟨F,_⟩ |⟨F,vs,I,h3⟩
  .cases F
  rw[show vs=[] from I] at h3;exact .inr ⟨rfl,[],rfl,h3⟩
 .rename_i t x k _;simp only[UZ] at h;split at h
  .rename_i hp;simp only[aFy] at h;subst h;refine⟨j.n,j.m,?_⟩;simp only[aGi];exact EU j.args (a5u hp G)
  cases h
 .simp only[V1,aFy] at h;subst h;refine⟨j.n,j.m,?_⟩;simp only[aGi];exact EU j.args ⟨G.1,trivial⟩
 .rename_i t x k;cases hb:qO H k with
  |none=>rw[hb] at h;simp [CO] at h
  |some b=>
   rw[hb] at h;cases b with
   |grow e c m=>
    simp only[CO] at h;split at h
    .rename_i D;simp only[aFL,aF2] at D;simp only[aFy] at h;subst h;have E:k∉sM a.ws.reverse:=fun z=>by
      have:=HW.2 ((RX _ _).1 z);rw[D.2] at this;cases this
     refine⟨by simp [j.n],by simpa using j.m.tok (b0:= .grow e c m) hb E,?_⟩;simp only[aGi];refine EU (MN (MM g w _ _) j.args) (X5 (g:=g) (g':=vI g (a.ws.reverse++[.tok k])) (k':=some a.n) rfl D.1 (fun _ _=>⟨_,rfl⟩) G (fun c' e1=>?_) (fun e1=>by cases e1));cases e1;refine⟨_,rfl,fun n u Q=>?_⟩;show AI g (a.ws.reverse++[rT.tok k])[a.n]? n=some u;rw[j.n,aFJ (aFW _),aG8];exact Q
    .cases h
   |cells=>simp [CO] at h
   |row=>simp [CO] at h
   |map=>simp [CO] at h
   |iter=>simp [CO] at h
   |dead=>simp [CO] at h
 .rename_i t os i o k;obtain⟨p,hp,K⟩:=xW G.1;obtain⟨F,more,I,h3,h4⟩:=Nl hH j hp h;refine⟨F.n,F.m,?_⟩;rw[h3];simp only[aGi];exact EU F.args ⟨.inr ⟨rfl,_,h4,by rw[K];rfl⟩,trivial⟩
 .rename_i i k;cases hb:qO H i with
  |none=>rw[hb] at h;simp [CP] at h
  |some b=>
   rw[hb] at h;cases b with
   |map s t l=>
    simp only[CP] at h;split at h
    .rename_i D;simp only[aFL,aF2] at D;simp only[aFy] at h;subst h;have E:i∉sM a.ws.reverse:=fun z=>by
      have:=HW.2 ((RX _ _).1 z);rw[D.2] at this;cases this
     refine⟨by simp [j.n],by simpa using j.m.tok (b0:= .map s t l) ⟨hb,D.1.1,D.1.2⟩ E,?_⟩;simp only[aGi];obtain⟨p,hp,K⟩: ∃p,g.J i=some p/\v= .map (some p.1):=by
      obtain⟨p,F,e⟩:=xV rfl G.1;simp only[aGm,and_true] at e;exact⟨p,F,e⟩
     refine EU (MN (MM g w _ _) j.args) ⟨.inr ⟨rfl,p,?_,by rw[K]⟩,trivial⟩;show vH g (a.ws.reverse++[rT.tok i])[a.n]? =_;rw[j.n,aFJ (aFW _),aG8];exact hp
    .cases h
   |cells=>simp [CP] at h
   |row=>simp [CP] at h
   |grow=>simp [CP] at h
   |iter=>simp [CP] at h
   |dead=>simp [CP] at h
 .rename_i k n k';cases hb:qO H k with
  |none=>rw[hb] at h;simp [yB] at h
  |some b=>
   rw[hb] at h;cases b with
   |row e t l m=>
    simp only[yB] at h;split at h
    .rename_i D;simp only[aFL,aF2] at D;simp only[aFy] at h;subst h;have E:k∉sM a.ws.reverse:=fun z=>by
      have:=HW.2 ((RX _ _).1 z);rw[D.2] at this;cases this
     refine⟨by simp [j.n],by simpa using j.m.tok (b0:= .row e t l m) ⟨hb,D.1⟩ E,?_⟩;simp only[aGi];obtain⟨F,I⟩:=G.1;refine EU (MN (MM g w _ _) j.args) ⟨⟨?_,I⟩,trivial⟩;show AI g (a.ws.reverse++[rT.tok k])[a.n]? n=_;rw[j.n,aFJ (aFW _),aG8];exact F
    .cases h
   |cells=>simp [yB] at h
   |grow e c m=>
    simp only[yB] at h;split at h
    .rename_i D;simp only[aF2] at D;simp only[aFy] at h;subst h;have E:k∉sM a.ws.reverse:=fun z=>by
      have:=HW.2 ((RX _ _).1 z);rw[D] at this;cases this
     refine⟨by simp [j.n],by simpa using j.m.tok (b0:= .grow e c m) hb E,?_⟩;simp only[aGi];obtain⟨F,I⟩:=G.1;refine EU (MN (MM g w _ _) j.args) ⟨⟨?_,I⟩,trivial⟩;show AI g (a.ws.reverse++[rT.tok k])[a.n]? n=_;rw[j.n,aFJ (aFW _),aG8];exact F
    .cases h
   |map=>simp [yB] at h
   |iter=>simp [yB] at h
   |dead=>simp [yB] at h
 .rename_i ks f cs k';obtain⟨vs,O,M⟩: ∃vs,yZ g cs vs/\v= .func (.func f) #[] vs.toArray:=by
   rcases G.1 with⟨F,_⟩ |⟨_,vs,I,h3⟩
   .cases F
   simp only[aGm,and_true] at h3;exact⟨vs,I,h3⟩
  obtain⟨z1,ids',z2,_,z4⟩:=Nn hH (ids:=[]) (a:=a) (us:=[]) j O rfl h;refine⟨z1.n,z1.m,?_⟩;rw[z2];simp only[aGi];exact EU z1.args ⟨.inr ⟨rfl,vs,by simpa using z4,by rw[M]⟩,trivial⟩
 .rename_i i o k;obtain⟨p,hp,K⟩:=xW G.1;rw[iy,List.append_nil] at h;cases D:DU i o a.ws.reverse 0 with
  |none=>rw[D] at h;cases h
  |some q=>
   obtain⟨c,q⟩:=q;rw[D] at h;simp only[QT,aFy] at h;subst h;obtain⟨d,u,x,toks,oc,rfl,I,rfl⟩:=P4 D;refine⟨j.n,j.m,?_⟩;simp only[aGi];refine EU j.args ⟨.inr ⟨rfl,⟨p.1,p.2+oc,p.3⟩,?_,by rw[K];simp [aGj]⟩,trivial⟩;show vH g a.ws.reverse[0+d]? =_;rw[aF6,I];simp [vH,hp]
 cases h
def Np {g:Gh}{w:q8}{H:sF}(hH:sK g w H): ∀{ps:List PK}{ss:List qK}{vs vals:pW}{a a':t8},CD g w H vals a->vG g w ss vs->yE H ps ss (some a)=some a'->CD g w H (vals++vs) a'
 |[],[],vs,vals,a,a',j,z,h=>by
  simp only[yE,aFy] at h;subst h;rw[show vs=[] from z,List.append_nil];exact j
 |p::ps,s::ss,vs,vals,a,a',j,⟨v,vs',e,E,D⟩,h=>by
  simp only[yE] at h;cases ho:yD H a p s with
  |none=>rw[ho] at h;cases ps<;>cases ss<;>simp [yE] at h
  |some a1=>
   rw[ho] at h;have:=Np hH (No hH j E ho) D h;rw[e];simpa using this
 |[],_::_,_,_,_,_,_,_,h=>by simp [yE] at h
 |_::_,[],_,_,_,_,_,_,h=>by simp [yE] at h
def CD.nil (g:Gh) (w:q8) (H:sF):CD g w H [] ⟨[],[],[],0⟩:=
 ⟨rfl,⟨rfl,fun c wh b h _=>by simp at h,by simp [sM]⟩,rfl⟩
def Nq: ∀(l:List qJ) (n:Nat),JH l n=l[n]?
 |[],_=>by simp [JH]
 |_::_,0=>rfl
 |_::r,n+1=>by simpa[JH] using Nq r n
def a5x {g:Gh}{w:q8}: ∀{t:Ty}{x:t.den}{cs:pW}{o:Nat}{y:pX},Rd g w t x cs->CQ t x o=some y->∃cs',C9 g y cs':=by
 intro t
 induction t with
 |pair a b iha ihb=>
  intro x cs o y r h;obtain⟨c1,c2,_,r1,r2⟩:=r;simp only[CQ] at h;split at h
  .exact iha r1 h
  .exact ihb r2 h
 |rl e u=>
  intro x cs o y r h;cases o with
  |zero=>simp only[CQ,aFy] at h;subst h;exact⟨cs,r⟩
  |succ o=>simp [CQ] at h
 |_=>intro x cs o y r h;cases o<;>simp [CQ] at h
def a5y {g:Gh}{w:q8}{H:sF}(hH:sK g w H) {vals:pW}{a:t8}(K:CD g w H vals a) (c q:Nat) (pk:PK): ∃v,rS g w (LP q pk (JH a.H c)) v:=by
 rw[Nq];have any: ∃v,rS g w (.any,none) v:=⟨undef,trivial,trivial⟩;cases hb:a.H[c]? with
 |none=>cases pk<;>exact any
 |some b=>
  cases b with
  |cells t y ts=>
   have U:c<a.H.length:=(aFP.1 hb).1;have I:a.H.reverse[a.H.length-1-c]? =some (.cells t y ts):=by
    rw[List.getElem?_reverse pP,show a.H.length-1- (a.H.length-1-c)=c by omega];exact hb
   obtain⟨wh,F⟩: ∃wh,a.ws.reverse[a.H.length-1-c]? =some wh:=by
    have hl:=K.m.len;simp only[List.length_reverse] at hl;exact⟨_,aFG (by rw[List.length_reverse];omega)⟩
   have hw:=K.m.ok _ wh _ F I;cases wh with
   |tok k=>exact hw.elim
   |box i u x toks off=>
    obtain⟨R,Q,_⟩:=hw;obtain⟨p,cs,hp,O,_⟩:=hH.blk i _ R;obtain⟨c1,c2,c3,V,hl,D⟩:=CA O Q;cases pk with
    |p t' os=>
     simp only[LP];cases E:rE .ref t y q with
     |none=>exact any
     |some z=>
      cases z with
      |none=>exact any
      |some z=>
       obtain⟨d1,d2,d3,_,_,h⟩:=CA D E;obtain⟨p',j,e⟩:=h;exact⟨_,.inr ⟨rfl,p',j,rfl⟩,trivial⟩
    |m=>
     simp only[LP];cases E:rE .mp t y q with
     |none=>exact any
     |some z=>
      cases z with
      |none=>exact any
      |some z=>
       obtain⟨d1,d2,d3,_,_,h⟩:=CA D E;obtain⟨p',j,e⟩:=h;exact⟨_,.inr ⟨rfl,p',j,rfl⟩,trivial⟩
    |v=>exact any
    |own=>exact any
    |f ks=>exact any
    |q=>exact any
    |r=>
     simp only[LP];cases E:CQ t y q with
     |none=>exact any
     |some z=>
      cases z with
      |none=>exact any
      |some z=>
       obtain⟨cs',h⟩:=a5x D E;obtain⟨v,M,_,G⟩:=h;exact⟨v,⟨M,G⟩,trivial⟩
  |_=>cases pk<;>exact any
def Nr {g:Gh}{w:q8}{H:sF}(hH:sK g w H) {vals:pW}: ∀{gs:List (Nat×Nat×PK)}{a a':t8},CD g w H vals a->C1 H gs (some a)=some a'->CD g w H vals a'
 |[],a,a',z,h=>by
  simp only[C1,aFy] at h;subst h;exact z
 |(c,q,pk)::gs,a,a',z,h=>by
  simp only[C1] at h;obtain⟨v,D⟩:=a5y hH z (a.n-1-c) q pk;cases hp:yD H a pk (LP q pk (JH a.H (a.n-1-c))) with
  |none=>
   rw[hp] at h;simp only[OL] at h;cases gs<;>simp [C1] at h
  |some b=>
   rw[hp] at h;simp only[OL] at h;have hb:=No hH z D hp;refine Nr hH (a:=⟨a.args,b.H,b.ws,b.n⟩) ⟨hb.n,hb.m,?_⟩ h;obtain⟨s,more,e1,e2⟩: ∃s more,b.args=s::a.args/\b.ws.reverse=a.ws.reverse++more:=by
    have j:=hp;unfold yD at j;split at j
    .simp only[V0,aFy] at j;subst j;exact⟨_,[],rfl,by simp⟩
    .simp only[UZ] at j;split at j
     .simp only[aFy] at j;subst j;exact⟨_,[],rfl,by simp⟩
     cases j
    .simp only[V1,aFy] at j;subst j;exact⟨_,[],rfl,by simp⟩
    .unfold CO at j;split at j
     .split at j
      .simp only[aFy] at j;subst j;exact⟨_,[_],rfl,aGi ..⟩
      cases j
     cases j
    .unfold w9 at j;split at j
     .unfold FZ at j;split at j
      .split at j
       .obtain⟨ks,bs,_,_,h3,_,E,_⟩:=XC j;exact⟨_,_,h3,by rw[E];simp only[aGi];exact aFO ..⟩
       cases j
      cases j
     cases j
    .unfold CP at j;split at j
     .split at j
      .simp only[aFy] at j;subst j;exact⟨_,[_],rfl,aGi ..⟩
      cases j
     cases j
    .unfold yB at j;split at j
     .split at j
      .simp only[aFy] at j;subst j;exact⟨_,[_],rfl,aGi ..⟩
      cases j
     .split at j
      .simp only[aFy] at j;subst j;exact⟨_,[_],rfl,aGi ..⟩
      cases j
     cases j
    .exact Nm j
    .unfold QT at j;split at j
     .simp only[aFy] at j;subst j;exact⟨_,[],rfl,by simp⟩
     cases j
    cases j
   rw[e2];exact MN (MM g w _ _) z.args
def a5z {b:Option qJ}{l:Option (List qJ)}{r:List qJ}(h:ci b l=some r): ∃b' l',b=some b'/\l=some l'/\r=b'::l':=by
 cases b<;>cases l<;>simp [ci] at h
 exact⟨_,_,rfl,rfl,h.symm⟩
def Ns {W:List rT}: ∀{L0 L:List qJ},JI W L0=some L->L.length=L0.length/\∀(c:Nat) (b:qJ),L[c]? =some b->∃b0,L0[c]? =some b0/\LQ W b0=some b
 |[],L,h=>by
  simp only[JI,aFy] at h;subst h;exact⟨rfl,fun c b h=>by simp at h⟩
 |b0::L0,L,h=>by
  simp only[JI] at h;obtain⟨b',l',D,z,rfl⟩:=a5z h;obtain⟨k1,k2⟩:=Ns z;refine⟨by simp [k1],fun c b j=>?_⟩;cases c with
  |zero=>simp only[aF8,aFy] at j;subst j;exact⟨b0,rfl,D⟩
  |succ c=>obtain⟨b1,q1,q2⟩:=k2 c b (by simpa using j);exact⟨b1,by simpa using q1,q2⟩
def HV.ren {H:sF}{ws:List rT}{L0 L:List qJ}(h:HV H ws L0) (G:JI ws L0=some L):RW H ws L:=by
 obtain⟨k1,k2⟩:=Ns G;refine⟨h.len.trans k1.symm,fun c wh b hw hb=>?_,h.nodup⟩;obtain⟨b0,q1,q2⟩:=k2 c b hb;have j:=h.ok c wh b0 hw q1;cases b0 with
 |cells t y ts=>
  cases wh with
  |tok k=>exact j.elim
  |box i u x toks o=>
   obtain⟨F,E,h3⟩:=j;simp only[LQ] at q2;split at q2
   .rename_i hp;obtain rfl:=aFE q2;exact⟨F,⟨y,E,.inl ⟨hp,rfl⟩⟩,h3⟩
   .cases D:CR ws t y with
    |none=>rw[D] at q2;cases q2
    |some z=>
     rw[D] at q2;obtain rfl:=aFE q2;exact⟨F,⟨y,E,.inr D⟩,h3⟩
 |_=>
  simp only[LQ,aFy] at q2;subst q2;cases wh<;>exact j
theorem AJ: ∀(W:List rT) (c:Nat),zQ W c=W[c]?
  |[],c=>by simp [zQ]
  |_::_,0=>rfl
  |_::W,c+1=>by simpa[zQ] using AJ W c
theorem Nt: ∀L:List qJ,rD L=L.length
  |[]=>rfl
  |_::L=>by simp [rD,Nt L]
theorem Nu {α:Type}: ∀(l acc:List α),zP l acc=l.reverse++acc
  |[],_=>rfl
  |x::l,acc=>by simp [zP,Nu l]
theorem iz {a:Option (Nat×qJ)}{b:Option (List (Nat×qJ))}{l:List (Nat×qJ)}(h:QW a b=some l): ∃q r,a=some q∧b=some r∧l=q::r:=by
  cases a<;>cases b<;>simp [QW] at h
  exact⟨_,_,rfl,rfl,h.symm⟩
def JZ (base n:Nat) (W ws:List rT) (R:List qJ) (c0:Nat) (id:Nat) (b:qJ):Prop:=
  (∃(c:Nat) (i:Nat) (u:Ty) (x:u.den) (toks:pU) (o:Nat) (b0:qJ),ws[c]? =some (.box i u x toks o)∧id=i∧R[c]? =some b0∧yF base n i o W u x toks b0=some (i,b))∨
  (∃(c k:Nat) (b0:qJ),ws[c]? =some (.tok k)∧id=k∧R[c]? =some b0∧wR k b0=some (k,b))∨
  (∃(c:Nat) (b0:qJ),R[c]? =some b0∧id=base+(c0+c)∧ws[c]? =none∧yW base n (c0+c) W b0=some (id,b))
theorem JZ.succ {base n:Nat}{W:List rT}{wh:rT}{ws:List rT}{b0:qJ}{R:List qJ}{c0 id:Nat}{b:qJ}(h:JZ base n W ws R (c0+1) id b):JZ base n W (wh::ws) (b0::R) c0 id b:=by
  rcases h with⟨c,i,u,x,toks,o,b1,z,j,h3,h4⟩ |⟨c,k,b1,z,j,h3,h4⟩ |⟨c,b1,z,j,h3,h4⟩
  .exact .inl ⟨c+1,i,u,x,toks,o,b1,by simpa using z,j,by simpa using h3,h4⟩
  .exact .inr (.inl ⟨c+1,k,b1,by simpa using z,j,by simpa using h3,h4⟩)
  exact .inr (.inr ⟨c+1,b1,by simpa using z,by rw[j];omega,by simpa using h3,by rw[show c0+(c+1)=c0+1+c from by omega];exact h4⟩)
theorem JZ.succ0 {base n:Nat}{W:List rT}{b0:qJ}{R:List qJ}{c0 id:Nat}{b:qJ}(h:JZ base n W [] R (c0+1) id b):JZ base n W [] (b0::R) c0 id b:=by
  rcases h with⟨c,i,u,x,toks,o,b1,j,_⟩ |⟨c,k,b1,j,_⟩ |⟨c,b1,j,z,h3,h4⟩
  .simp at j
  .simp at j
  exact .inr (.inr ⟨c+1,b1,by simpa using j,by rw[z];omega,by simp,by rw[show c0+(c+1)=c0+1+c from by omega];exact h4⟩)
theorem Nv {i:Nat}{t:Ty}{ts:pU}{o:Option t.den}{q:Nat×qJ}(h:Jq i t ts o=some q): ∃y,o=some y∧q=(i,.cells t y ts):=by
  cases o with
  |none=>cases h
  |some y=>exact⟨y,rfl,(aFE h).symm⟩
theorem a5A {base n c:Nat}{W:List rT}{b:qJ}{q:Nat×qJ}(h:yW base n c W b=some q):q.1=base+c:=by
  cases b<;>simp only[yW] at h
  · split at h
    .exact(aFE h)▸rfl
    obtain⟨y,_,rfl⟩:=Nv h;rfl
  .exact(aFE h)▸rfl
  · split at h
    .exact(aFE h)▸rfl
    cases h
  · split at h
    .exact(aFE h)▸rfl
    cases h
  .cases h
  exact(aFE h)▸rfl
def bY (base n:Nat) (W:List rT) (t:Ty) (x y:t.den):Prop:=(t.pure=true∧y=x)∨C2 base n W t x=some y
theorem ja {base n i o:Nat}{W:List rT}{u t:Ty}{x:u.den}{y:t.den}{toks ts:pU}{q:Nat×qJ}(h:yF base n i o W u x toks (.cells t y ts)=some q):
    ∃y2 z,bY base n W t y y2∧sQ t y2 u x o=some z∧q=(i,.cells u z (r7 (EM base n W o ts) (tK toks o t.cells))):=by
  simp only[yF] at h;split at h
  · rename_i hp
    cases j:sQ t y u x o with
    |none=>rw[j] at h;simp [V5] at h
    |some z=>rw[j] at h;exact⟨y,z,.inl ⟨hp,rfl⟩,j,(aFE h).symm⟩
  cases D:C2 base n W t y with
  |none=>rw[D] at h;cases h
  | some y2=>
    rw[D] at h;simp only[Jr] at h;cases j:sQ t y2 u x o with
    |none=>rw[j] at h;simp [V5] at h
    |some z=>rw[j] at h;exact⟨y2,z,.inr D,j,(aFE h).symm⟩
theorem a5B {k:Nat}{b:qJ}{q:Nat×qJ}(h:wR k b=some q):q.1=k:=by
  cases b<;>simp only[wR] at h
  .cases h
  .exact(aFE h)▸rfl
  · split at h
    .exact(aFE h)▸rfl
    cases h
  · split at h
    .exact(aFE h)▸rfl
    cases h
  .cases h
  exact(aFE h)▸rfl
theorem a5C {base n i o:Nat}{W:List rT}{u:Ty}{x:u.den}{toks:pU}{b:qJ}{q:Nat×qJ}(h:yF base n i o W u x toks b=some q):q.1=i:=by
  cases b with
  |cells t y ts=>obtain⟨y2,z,_,_,rfl⟩:=ja h;rfl
  |grow=>simp [yF] at h
  |row=>simp [yF] at h
  |map=>simp [yF] at h
  |iter=>simp [yF] at h
  |dead=>simp only[yF,aFy] at h;exact h▸rfl
theorem P5 {base n:Nat}{W:List rT}: ∀{ws:List rT}{R:List qJ}{c0:Nat}{upd:List (Nat×qJ)},C3 base n W c0 ws R=some upd→
    ws.length≤R.length∧(∀id b,qO upd id=some b→JZ base n W ws R c0 id b)∧(∀id,id∈qQ upd→∃b,qO upd id=some b)∧
    (∀(c:Nat) wh,ws[c]? =some wh→wh.id∈qQ upd)∧(∀(c:Nat) b,R[c]? =some b→ws[c]? =none→base+(c0+c)∈qQ upd)
  | [],[],_,upd,h=>by
    simp only[C3,aFy] at h;subst h;exact⟨aFW _,fun _ _ h=>by simp [qO] at h,fun _ h=>by simp [qQ] at h,fun _ _ h=>by simp at h,fun _ _ h=>by simp at h⟩
  | [],b::R,c0,upd,h=>by
    simp only[C3] at h;obtain⟨q,r,z,E,rfl⟩:=iz h;obtain⟨k1,k2,k3,k4,k5⟩:=P5 E;have hq:=a5A z;obtain⟨q1,q2⟩:=q;simp only at hq;subst hq;refine⟨by simp,fun id b' j=>?_,fun id hi=>?_,fun c wh hw=>by simp at hw,fun c b' hb D=>?_⟩
    · simp only[qO] at j
      split at j
      · rename_i e
        obtain rfl:=aFE j;subst e;exact .inr (.inr ⟨0,b,rfl,rfl,by simp,z⟩)
      exact(k2 id b' j).succ0
    · simp only[qO]
      by_cases e:base+c0=id
      .rw[aFz e];exact⟨_,rfl⟩
      rw[aFA e]
      simp only[qQ,aFN] at hi;exact k3 id (hi.resolve_left (Ne.symm e))
    · cases c with
      |zero=>simp [qQ]
      | succ c=>
        have:=k5 c b' (by simpa using hb) pR;simp only[qQ,aFN];right;rw[show base+(c0+(c+1))=base+(c0+1+c) from by omega];exact this
  | .box i u x toks o::ws,[],c0,upd,h=>by simp [C3] at h
  | .tok k::ws,[],c0,upd,h=>by simp [C3] at h
  | .box i u x toks o::ws,b::R,c0,upd,h=>by
    simp only[C3] at h;obtain⟨q,r,z,E,rfl⟩:=iz h;obtain⟨k1,k2,k3,k4,k5⟩:=P5 E;have hq:=a5C z;obtain⟨q1,q2⟩:=q;simp only at hq;subst hq;refine⟨by simp;omega,fun id b' j=>?_,fun id hi=>?_,fun c wh hw=>?_,fun c b' hb D=>?_⟩
    · simp only[qO] at j
      split at j
      · rename_i e
        obtain rfl:=aFE j;subst e;exact .inl ⟨0,q1,u,x,toks,o,b,rfl,rfl,rfl,z⟩
      exact(k2 id b' j).succ
    · simp only[qO]
      by_cases e:q1=id
      .rw[aFz e];exact⟨_,rfl⟩
      rw[aFA e]
      simp only[qQ,aFN] at hi;exact k3 id (hi.resolve_left (Ne.symm e))
    · cases c with
      |zero=>simp only[aF8,aFy] at hw;subst hw;simp [qQ,rT.id]
      |succ c=>simp only[qQ,aFN];exact .inr (k4 c wh (by simpa using hw))
    · cases c with
      |zero=>simp at D
      | succ c=>
        have:=k5 c b' (by simpa using hb) (by simpa using D);simp only[qQ,aFN];right;rw[show base+(c0+(c+1))=base+(c0+1+c) from by omega];exact this
  | .tok k::ws,b::R,c0,upd,h=>by
    simp only[C3] at h;obtain⟨q,r,z,E,rfl⟩:=iz h;obtain⟨k1,k2,k3,k4,k5⟩:=P5 E;have hq:=a5B z;obtain⟨q1,q2⟩:=q;simp only at hq;subst hq;refine⟨by simp;omega,fun id b' j=>?_,fun id hi=>?_,fun c wh hw=>?_,fun c b' hb D=>?_⟩
    · simp only[qO] at j
      split at j
      · rename_i e
        obtain rfl:=aFE j;subst e;exact .inr (.inl ⟨0,q1,b,rfl,rfl,rfl,z⟩)
      exact(k2 id b' j).succ
    · simp only[qO]
      by_cases e:q1=id
      .rw[aFz e];exact⟨_,rfl⟩
      rw[aFA e]
      simp only[qQ,aFN] at hi;exact k3 id (hi.resolve_left (Ne.symm e))
    · cases c with
      |zero=>simp only[aF8,aFy] at hw;subst hw;simp [qQ,rT.id]
      |succ c=>simp only[qQ,aFN];exact .inr (k4 c wh (by simpa using hw))
    cases c with
    |zero=>simp at D
    | succ c=>
      have:=k5 c b' (by simpa using hb) (by simpa using D);simp only[qQ,aFN];right;rw[show base+(c0+(c+1))=base+(c0+1+c) from by omega];exact this
def tR (g g':Gh) (base:Nat) (W:List rT) (ids:pZ):Gh:=
  ⟨g'.S,fun i=>if base≤i∧i∈ids then g'.J (i-base) else match wA i W 0 with|some c=>g'.J c|none=>g.J i,
   fun i=>if base≤i∧i∈ids then g'.cur (i-base) else match wA i W 0 with|some c=>g'.cur c|none=>g.cur i⟩
theorem RY {n c:Nat}{wh:Option rT}:OM n c wh=true↔c<n∧wh=none:=by
  cases wh with
  |none=>simp [OM]
  |some wh=>simp [OM]
theorem a5D {base n c i:Nat}{wh:Option rT}(h:AC base n c wh=some i):wh=some (.tok i)∨(wh=none∧c<n∧i=base+c):=by
  cases wh with
  | none=>
    simp only[AC] at h;split at h
    .rename_i j;exact .inr ⟨rfl,j,(aFE h).symm⟩
    .cases h
  | some wh=>
    cases wh with
    |box=>cases h
    |tok k=>simp only[AC,aFy] at h;subst h;exact .inl rfl
theorem XD {i:Nat}: ∀{ws:List rT}{c0:Nat},(∀c:Nat,ws[c]? ≠some (.tok i))→wA i ws c0=none
  |[],_,_=>rfl
  | .tok j::r,c0,h=>by
    simp only[wA];split
    .rename_i e;subst e;exact absurd rfl (h 0)
    .exact XD (fun c=>by have:=h (c+1);simpa using this)
  | .box _ _ _ _ _::r,c0,h=>by
    simp only[wA];exact XD (fun c=>by have:=h (c+1);simpa using this)
theorem a5E {i c:Nat}{ws:List rT}(z:(sM ws).Nodup) (h:ws[c]? =some (.tok i)):wA i ws 0=some c:=by
  cases D:wA i ws 0 with
  | none=>
    exfalso
    have: ∀{ws:List rT}{c0 c:Nat},ws[c]? =some (.tok i)→wA i ws c0≠none:=by
      intro ws
      induction ws with
      |nil=>intro c0 c h;simp at h
      | cons wh r ih=>
        intro c0 c h;cases c with
        | zero=>
          simp only[aF8,aFy] at h;subst h;simp [wA]
        | succ c=>
          simp only[aGk] at h;cases wh with
          |box=>exact ih h
          | tok j=>
            simp only[wA];split
            .simp
            exact ih h
    exact this h D
  | some d=>
    obtain⟨d',e1,E⟩:=JX D;rw[aF6] at e1;subst e1;rw[XB z h E rfl]
theorem Fr.mono {A B:Nat→Nat→Prop}{w w':q8}{S S':Nat→Nat→Prop}(h:Fr A w w' S S') (j: ∀b o,A b o→B b o):Fr B w w' S S':=
  ⟨h.os,h.tape,h.output,h.size,fun b hb D=>h.blk b hb (fun o ho=>D o (j b o ho)),fun b o hb D=>h.cell b o hb (fun ho=>D (j b o ho)),fun b o z=>(h.new b o z).imp id (Or.imp id (j b o)),fun b s z=>(h.shape b s z).imp id fun h o=>j b o (h o)⟩
theorem XE {base n:Nat}{W:List rT}{o:Nat}: ∀{ts:pU}{q k:Nat},(q,k)∈EM base n W o ts→∃q' c,(q',c)∈ts∧AC base n c (zQ W c)=some k∧q=o+q'
  |[],_,_,h=>by simp [EM] at h
  | (q',c)::r,q,k,h=>by
    simp only[EM] at h;cases j:AC base n c (zQ W c) with
    | none=>
      rw[j] at h;obtain⟨a,b,D,z⟩:=XE h;exact⟨a,b,aFK _ D,z⟩
    | some k'=>
      rw[j] at h;rcases aFN.1 h with h|h
      · simp only[aF3] at h
        obtain⟨rfl,rfl⟩:=h;exact⟨q',c,by simp,j,rfl⟩
      obtain⟨a,b,D,z⟩:=XE h
      exact⟨a,b,aFK _ D,z⟩
theorem xG {α:Type}{x:α}: ∀{l m:List α},x∈r7 l m↔x∈l∨x∈m
  |[],m=>by simp [r7]
  |y::l,m=>by simp [r7,xG (l:=l),or_assoc]
theorem jc: ∀{toks:pU}{off n q k:Nat},(q,k)∈tK toks off n→(q,k)∈toks∧¬(off≤q∧q<off+n)
  |[],_,_,_,_,h=>by simp [tK] at h
  | (q',k')::r,off,n,q,k,h=>by
    simp only[tK] at h;split at h
    · obtain⟨z,j⟩:=jc h
      exact⟨aFK _ z,j⟩
    rename_i D
    rcases aFN.1 h with h|h
    · cases h
      exact⟨by simp,D⟩
    obtain⟨z,j⟩:=jc h
    exact⟨aFK _ z,j⟩
section
variable {g g':Gh}{w w':q8}{H:sF}{W:List rT}{L:List qJ}{r:qT}{v:q9}{base:Nat}{upd:List (Nat×qJ)}
variable (hH:sK g w H) (hm:RW H W L) (hr:GA (vI g W) w L r g' w' v) (hb:C3 base r.H.length W 0 W r.H=some upd) (hf: ∀i,i∈qQ upd→base≤i→g.J i=none∧∀n,g.cur i n=none)
include hH hm hr hb hf
theorem EV {c:Nat}{wh:rT}(hw:W[c]? =some wh):wh.id∈qQ upd∧wh.id<base∧∃b,L[c]? =some b∧X9 H W wh b:=by
  have F:=(P5 hb).2.2.2.1 c wh hw;have E:c<L.length:=hm.len▸(aFP.1 hw).1;have h:=hm.ok c wh _ hw (aFG E);refine⟨F,Nat.lt_of_not_le fun G=>?_,_,aFG E,h⟩;have j:=hf _ F G;cases wh with
  | box i u x toks o=>
    cases z:L[c] with
    | cells t y ts=>
      rw[z] at h;obtain⟨p,cs,hp,_⟩:=hH.blk i _ h.1;rw[show (rT.box i u x toks o).id=i from rfl] at j;rw[j.1] at hp;cases hp
    |_=>rw[z] at h;exact h.elim
  | tok k=>
    cases z:L[c] with
    | grow e cc m=>
      rw[z] at h;obtain⟨v,xs,D,_⟩:=hH.blk k _ h;rw[show (rT.tok k).id=k from rfl] at j;rw[j.2] at D;cases D
    | map s t l=>
      rw[z] at h;obtain⟨p,es,cl,hp,_⟩:=hH.blk k _ h.1;rw[show (rT.tok k).id=k from rfl] at j;rw[j.1] at hp;cases hp
    | row e t l m=>
      rw[z] at h;obtain⟨_,v,xs,D,_⟩:=hH.blk k _ h.1;rw[show (rT.tok k).id=k from rfl] at j;rw[j.2] at D;cases D
    |_=>rw[z] at h;exact h.elim
theorem a5F {c:Nat}(j:c<r.H.length) (h:W[c]? =none):base+c∈qQ upd:=by
  have:=(P5 hb).2.2.2.2 c _ (aFG j) h;simpa using this
theorem MO {c:Nat}(z:c<r.H.length) (j:W[c]? =none):(tR g g' base W (qQ upd)).J (base+c)=g'.J c∧(tR g g' base W (qQ upd)).cur (base+c)=g'.cur c:=by
  have h:=a5F hH hm hr hb hf z j;refine⟨?_,?_⟩
  · show (if base≤base+c∧base+c∈qQ upd then _ else _)=_
    rw[aFz ⟨pP,h⟩,aGo]
  show (if base≤base+c∧base+c∈qQ upd then _ else _)=_
  rw[aFz ⟨pP,h⟩,aGo]
theorem Nw {i:Nat}(hi: ¬(base≤i∧i∈qQ upd)) (h:wA i W 0=none):(tR g g' base W (qQ upd)).J i=g.J i∧(tR g g' base W (qQ upd)).cur i=g.cur i:=by
  refine⟨?_,?_⟩
  · show (if base≤i∧i∈qQ upd then _ else _)=_
    rw[aFA hi,h]
  show (if base≤i∧i∈qQ upd then _ else _)=_
  rw[aFA hi,h]
theorem Nx {c k:Nat}(hw:W[c]? =some (.tok k)):(tR g g' base W (qQ upd)).J k=g'.J c∧(tR g g' base W (qQ upd)).cur k=g'.cur c:=by
  have h:=(EV hH hm hr hb hf hw).2.1;simp only[rT.id] at h;have j:=a5E hm.nodup hw;refine⟨?_,?_⟩
  · show (if base≤k∧k∈qQ upd then _ else _)=_
    rw[aFA pP,j]
  show (if base≤k∧k∈qQ upd then _ else _)=_
  rw[aFA pP,j]
theorem P6 {c i:Nat}{u:Ty}{x:u.den}{toks:pU}{o:Nat}(hw:W[c]? =some (.box i u x toks o)):(tR g g' base W (qQ upd)).J i=g.J i∧(tR g g' base W (qQ upd)).cur i=g.cur i:=by
  have j:=(EV hH hm hr hb hf hw).2.1;simp only[rT.id] at j;refine Nw hH hm hr hb hf pP (XD fun d h=>?_);have:=XB hm.nodup hw h rfl;subst this;rw[hw] at h;cases h
theorem HY {c i:Nat}(hi:AC base r.H.length c W[c]? =some i):(tR g g' base W (qQ upd)).J i=g'.J c∧(tR g g' base W (qQ upd)).cur i=g'.cur c:=by
  rcases a5D hi with h|⟨z,j,rfl⟩
  .exact Nx hH hm hr hb hf h
  exact MO hH hm hr hb hf j z
theorem Ny:Le g w (tR g g' base W (qQ upd)) w':=by
  have len: ∀{i c:Nat},wA i W 0=some c→W[c]? =some (.tok i)∧c<L.length:=by
    intro i c h;obtain⟨d,e1,j⟩:=JX h;rw[aF6] at e1;subst e1;exact⟨j,hm.len▸(aFP.1 j).1⟩
  refine⟨fun b o h=>(hr.shut b o h).1,fun b o h=>(hr.shut b o h).2,fun i p h=>?_,fun i n u h=>?_⟩
  · show (if base≤i∧i∈qQ upd then _ else _)=_
    rw[aFA (fun⟨z,j⟩=>by rw[(hf i j z).1] at h;cases h)];cases D:wA i W 0 with
    |none=>exact h
    | some c=>
      obtain⟨z,j⟩:=len D;refine hr.Jt c p j ?_;show vH g W[c]? =_;rw[z];exact h
  show (if base≤i∧i∈qQ upd then g'.cur (i-base) else match wA i W 0 with|some c=>g'.cur c|none=>g.cur i) n=_
  rw[aFA (fun⟨z,j⟩=>by rw[(hf i j z).2] at h;cases h)];cases D:wA i W 0 with
  |none=>exact h
  | some c=>
    obtain⟨z,j⟩:=len D;refine hr.cur c n u j ?_;show AI g W[c]? n=_;rw[z];exact h
theorem a5G {t:Ty}{x y:t.den}{cs:pW}(E:Rd g' w' t x cs) (h:C2 base r.H.length W t x=some y):Rd (tR g g' base W (qQ upd)) w' t y cs:=by
  refine XA (g:=g') (g':=tR g g' base W (qQ upd)) rfl (C2 base r.H.length W) (fun a b x=>rfl) (fun t x=>rfl) (fun _=>rfl) (fun _ _=>rfl) (fun _=>rfl) (fun _=>rfl) (fun _=>rfl) (fun _ _ x y cs h E=>?_) (fun x y cs h E=>?_) (fun x y cs h E=>?_) (fun x y cs h E=>?_) (fun x y cs h E=>?_) (fun _=>rfl) E h
  rotate_left 2
  · obtain⟨c,i,⟨k3,n3⟩,⟨k4,n4⟩⟩:=x
    simp only[C2,Jp,AJ] at h;obtain⟨i',k3',k4',e1,e2,e3,rfl⟩:=Nc h;refine iu (g:=g') (g':=tR g g' base W (qQ upd)) (fun _ _ h=>⟨h,rfl⟩) (fun p hp=>?_) (fun v D=>?_) (fun v D=>?_) E
    · unfold QV at e1
      split at e1
      · rename_i i0 uu x toks o' j
        simp only[aFy,aF3] at e1;obtain⟨rfl,h0⟩:=e1;obtain⟨_,R,b,O,G⟩:=EV hH hm hr hb hf j;cases b with
        | cells t y ts=>
          have I:=hr.J i t y ts O;rw[hp] at I;have z:vH g W[i]? =some p:=I.symm;rw[j] at z;obtain⟨p0,F,rfl⟩:=aFQ.1 z;exact⟨p0,by rw[(P6 hH hm hr hb hf j).1];exact F,rfl,by simp;omega⟩
        |_=>exact G.elim
      split at e1
      · rename_i M
        simp only[aFy,aF3] at e1;obtain⟨rfl,-⟩:=e1;obtain⟨Q,K⟩:=RY.1 M;exact⟨p,by rw[(MO hH hm hr hb hf Q K).1];exact hp,rfl,rfl⟩
      cases e1
    .rw[(HY hH hm hr hb hf e2).2];exact D
    rw[(HY hH hm hr hb hf e3).2];exact D
  rotate_left 2
  · cases x with
    |none=>cases h;exact E
    | some q=>
      obtain⟨c,n⟩:=q;simp only[C2,Jo,AJ] at h;obtain⟨i,hi,rfl⟩:=aFQ.1 h;obtain⟨v,D,U⟩:=E;exact⟨v,by rw[(HY hH hm hr hb hf hi).2];exact D,U⟩
  · cases x with
    |none=>cases h;exact E
    | some q=>
      obtain⟨c,o⟩:=q;simp only[C2,LS] at h;obtain⟨p,hp,D⟩:=E;unfold LS.back2 at h;split at h
      · rename_i i uu x toks o' j
        cases h;rw[AJ] at j;obtain⟨_,R,b,O,G⟩:=EV hH hm hr hb hf j;cases b with
        | cells t y ts=>
          have I:=hr.J c t y ts O;rw[hp] at I;have z:vH g W[c]? =some p:=I.symm;rw[j] at z;obtain⟨p0,F,rfl⟩:=aFQ.1 z;exact⟨p0,by rw[(P6 hH hm hr hb hf j).1];exact F,by have:=D.1;rwa [aGj] at this,D.2.imp id fun D=>by rw[D];simp [aGj]⟩
        |_=>exact G.elim
      split at h
      · rename_i M
        cases h;obtain⟨Q,K⟩:=RY.1 M;rw[AJ] at K;exact⟨p,by rw[(MO hH hm hr hb hf Q K).1];exact hp,D⟩
      cases h
  · cases x with
    |none=>cases h;exact E
    | some q=>
      obtain⟨c,o⟩:=q;simp only[C2,LS] at h;obtain⟨p,hp,D⟩:=E;unfold LS.back2 at h;split at h
      · rename_i i uu x toks o' j
        cases h;rw[AJ] at j;obtain⟨_,R,b,O,G⟩:=EV hH hm hr hb hf j;cases b with
        | cells t y ts=>
          have I:=hr.J c t y ts O;rw[hp] at I;have z:vH g W[c]? =some p:=I.symm;rw[j] at z;obtain⟨p0,F,rfl⟩:=aFQ.1 z;exact⟨p0,by rw[(P6 hH hm hr hb hf j).1];exact F,by rw[D];simp [aGj]⟩
        |_=>exact G.elim
      split at h
      · rename_i M
        cases h;obtain⟨Q,K⟩:=RY.1 M;rw[AJ] at K;exact⟨p,by rw[(MO hH hm hr hb hf Q K).1];exact hp,D⟩
      cases h
  cases x with
  |none=>cases h;exact E
  | some c=>
    simp only[C2,Jn,AJ] at h;obtain⟨i,hi,rfl⟩:=aFQ.1 h;obtain⟨p,hp,D⟩:=E;exact⟨p,by rw[(HY hH hm hr hb hf hi).1];exact hp,D⟩
theorem Nz {t:Ty}{x y:t.den}{cs:pW}(j:Rd g' w' t x cs) (h:bY base r.H.length W t x y):Rd (tR g g' base W (qQ upd)) w' t y cs:=by
  rcases h with⟨hp,rfl⟩ |h
  .exact wC (g:=g') (g':=tR g g' base W (qQ upd)) rfl hp j
  exact a5G hH hm hr hb hf j h
omit hH hm hr hb hf in
theorem Oa {n:Nat}{t u:Ty}{x y:t.den}{o:Nat}{l:List u.den}(h:bY base n W t x y) (j:rE (.list u) t x o=some l):rE (.list u) t y o=some l:=by
  rcases h with⟨_,rfl⟩ |h
  .exact j
  exact ir (C2 base n W) (fun _ _ _=>rfl) (fun _ _=>rfl) h j
theorem Ob: ∀(cs:pU) {l:pU}{vs:pW},yZ g' cs vs→ON base r.H.length W cs=some l→yZ (tR g g' base W (qQ upd)) l vs
  |[],l,vs,h,e=>by cases e;exact h
  | (c,o)::cs,l,vs,⟨p,vs',hp,K,F⟩,e=>by
    unfold ON at e;cases j:QV base r.H.length c o (zQ W c) with
    |none=>rw[j] at e;cases e
    | some q=>
      cases E:ON base r.H.length W cs with
      |none=>rw[j,E] at e;cases e
      | some l'=>
        rw[j,E] at e;cases e;refine(?_ : ∃p vs',_);have ih:=Ob cs F E;unfold QV at j;split at j
        · rename_i i uu x toks o' z
          cases j;rw[AJ] at z;obtain⟨_,R,b,Q,I⟩:=EV hH hm hr hb hf z;cases b with
          | cells t y ts=>
            have M:=hr.J c t y ts Q;rw[hp] at M;have D:vH g W[c]? =some p:=M.symm;rw[z] at D;obtain⟨p0,G,rfl⟩:=aFQ.1 D;exact⟨p0,vs',by rw[(P6 hH hm hr hb hf z).1];exact G,by rw[K];simp [aGj],ih⟩
          |_=>exact I.elim
        split at j
        · rename_i O
          cases j;obtain⟨h3,h4⟩:=RY.1 O;rw[AJ] at h4;exact⟨p,vs',by rw[(MO hH hm hr hb hf h3 h4).1];exact hp,K,ih⟩
        cases j
theorem a5H {s:qK}{u:q9}(h:rS g' w' s u):rS (tR g g' base W (qQ upd)) w' (V4 base r.H.length W s) u:=by
  obtain⟨d,k⟩:=s
  have tokk: ∀{t:Ty}(hp:t.pure=true) {x:t.den}{k:pY},(∀c,k=some c→∃u,t= .list u)→rS g' w' (.val t x,k) u→rS (tR g g' base W (qQ upd)) w' (.val t x,LR base r.H.length W k) u:=by
    intro t hp x k hl h;cases k with
    |none=>exact X5 (g:=g') (g':=tR g g' base W (qQ upd)) (k:=none) (k':=none) rfl hp (fun c e=>by cases e) h (fun c e=>by cases e) (fun _=>rfl)
    | some c=>
      simp only[LR,AJ];cases E:AC base r.H.length c W[c]? with
      | some i=>
        refine X5 (g:=g') (g':=tR g g' base W (qQ upd)) (k:=some c) (k':=some i) rfl hp hl h (fun c' e=>?_) (fun e=>by cases e);cases e;refine⟨_,rfl,fun n u V=>?_⟩;rw[(HY hH hm hr hb hf E).2];exact V
      | none=>
        exact X5 (g:=g') (g':=tR g g' base W (qQ upd)) (k:=none) (k':=none) rfl hp (fun c e=>by cases e) ⟨h.1,trivial⟩ (fun c e=>by cases e) (fun _=>rfl)
  unfold V4;split
  · rename_i c m k' heq
    simp only[aF3] at heq;obtain⟨rfl,rfl⟩:=heq;simp only[LR,AJ];cases E:AC base r.H.length c W[c]? with
    | some i=>
      obtain⟨h3,h4⟩:=h.1;exact⟨⟨by rw[(HY hH hm hr hb hf E).2];exact h3,h4⟩,trivial⟩
    |none=>exact⟨trivial,trivial⟩
  · rename_i c o k' heq
    simp only[aF3] at heq;obtain⟨rfl,rfl⟩:=heq;obtain⟨p,hp,G⟩:=xW h.1;unfold Jm;split
    · rename_i i uu x toks o' z
      rw[AJ] at z;obtain⟨_,ha,b,Y,K⟩:=EV hH hm hr hb hf z;cases b with
      | cells t y ts=>
        have M:=hr.J c t y ts Y;rw[hp] at M;have F:vH g W[c]? =some p:=M.symm;rw[z] at F;obtain⟨p0,I,rfl⟩:=aFQ.1 F;refine⟨.inr ⟨rfl,p0,by rw[(P6 hH hm hr hb hf z).1];exact I,?_⟩,trivial⟩;rw[G];simp [aGj]
      |_=>exact K.elim
    split
    · rename_i E
      obtain⟨j,D⟩:=RY.1 E;rw[AJ] at D;exact⟨.inr ⟨rfl,p,by rw[(MO hH hm hr hb hf j D).1];exact hp,by rw[G]⟩,trivial⟩
    exact⟨trivial,trivial⟩
  · rename_i k' heq
    simp only[aF3] at heq;obtain⟨rfl,rfl⟩:=heq;rcases h.1 with⟨j,_⟩ |⟨j,D⟩
    .cases j
    exact⟨.inr ⟨j,D⟩,trivial⟩
  · rename_i c k' heq
    simp only[aF3] at heq;obtain⟨rfl,rfl⟩:=heq;simp only[LR,AJ];cases E:AC base r.H.length c W[c]? with
    | some i=>
      obtain⟨p,hp,G⟩:MC g' (some c) [u]:=xV rfl h.1;exact⟨.inr ⟨rfl,p,by rw[(HY hH hm hr hb hf E).1];exact hp,G⟩,trivial⟩
    |none=>exact⟨trivial,trivial⟩
  · rename_i k' heq
    simp only[aF3] at heq;obtain⟨rfl,rfl⟩:=heq;rcases h.1 with⟨j,_⟩ |⟨j,D⟩
    .cases j
    exact⟨.inr ⟨j,D⟩,trivial⟩
  · rename_i f cs k' heq
    simp only[aF3] at heq;obtain⟨rfl,rfl⟩:=heq;cases X:ON base r.H.length W cs with
    |none=>exact⟨trivial,trivial⟩
    | some l=>
      rcases h.1 with⟨j,_⟩ |⟨_,vs,D,h3⟩
      .cases j
      exact⟨.inr ⟨rfl,vs,Ob hH hm hr hb hf cs D X,h3⟩,trivial⟩
  · rename_i t x k' Z U R Q O heq
    simp only[aF3] at heq;obtain⟨rfl,rfl⟩:=heq;split
    · rename_i hp
      exact tokk hp a5l (Na h)
    exact⟨trivial,trivial⟩
  exact⟨trivial,trivial⟩
end
theorem Oc {g:Gh}{w:q8}{H:sF}{W:List rT}{L:List qJ}(hH:sK g w H) (hm:RW H W L) {bb oo:Nat}(h:z6 (vI g W) (r5 0 L) bb oo):
  ∃(c:Nat) (wh:rT) (b blk:qJ),W[c]? =some wh/\L[c]? =some b/\sH (vI g W) c b bb oo/\qO H wh.id=some blk/\sH g wh.id blk bb oo:=by
 obtain⟨c,b,E,ho⟩:=h;rw[xY] at E;have I:c<W.length:=hm.len▸(aFP.1 E).1;have j:W[c]? =some W[c]:=aFG I;have hw:=hm.ok c _ b j E;refine⟨c,W[c],b,?_⟩;generalize W[c]=wh at j hw;cases wh with
 |box i u x toks off=>
  cases b with
  |cells t y ts=>
   obtain⟨Q,⟨y0,R,h3⟩,h4⟩:=hw;obtain⟨p,hp,e1,e2,e3⟩:=ho;have D:vH g W[c]? =some p:=hp;rw[j] at D;obtain⟨p0,G,rfl⟩:=aFQ.1 D;obtain⟨p1,cs,U,O,_⟩:=hH.blk i _ Q;obtain⟨c1,c2,c3,K,hl,M⟩:=CA O R;have l1:=sZ O;have l2:=sZ M;rw[K] at l1;simp only[aFD] at l1;exact⟨_,j,E,⟨_,hp,e1,e2,e3⟩,Q,p0,G,e1,by simp at e2;omega,by simp at e3;omega⟩
  |_=>exact hw.elim
 |tok k=>
  cases b with
  |grow e cc m=>
   obtain⟨v,F,hb⟩:=ho;have z:AI g W[c]? m=some v:=F;rw[j] at z;exact⟨_,j,E,⟨v,F,hb⟩,hw,v,z,hb⟩
  |map s t l=>
   obtain⟨p,hp,hb⟩:=ho;have D:vH g W[c]? =some p:=hp;rw[j] at D;exact⟨_,j,E,⟨p,hp,hb⟩,hw.1,p,D,hb⟩
  |row e t l m=>
   obtain⟨v,F,hb⟩:=ho;have z:AI g W[c]? m=some v:=F;rw[j] at z;exact⟨_,j,E,⟨v,F,hb⟩,hw.1,v,z,hb⟩
  |_=>exact hw.elim
section
variable {g g':Gh}{w w':q8}{H:sF}{W:List rT}{L:List qJ}{r:qT}{v:q9}{base:Nat}{upd:List (Nat×qJ)}
variable (hH:sK g w H) (hm:RW H W L) (hr:GA (vI g W) w L r g' w' v) (hb:C3 base r.H.length W 0 W r.H=some upd) (hf: ∀i,i∈qQ upd->base<=i->g.J i=none/\∀n,g.cur i n=none)
include hH hm hr hb hf
theorem jd {b o:Nat}(h:z6 (vI g W) (r5 0 L) b o):sY g H (qQ upd) b o:=by
 obtain⟨c,wh,b0,blk,z,D,h3,h4,j⟩:=Oc hH hm h;exact⟨wh.id,blk,(EV hH hm hr hb hf z).1,h4,j⟩
theorem a5I:Fr (sY g H (qQ upd)) w w' g.S (tR g g' base W (qQ upd)).S:=hr.fr.mono fun _ _ h=>jd hH hm hr hb hf h
theorem XF {id:Nat}{b:qJ}(hi:id∈qQ upd) (z:qO (r7 upd H) id=some b):JZ base r.H.length W W r.H 0 id b:=by
 obtain⟨_,k2,k3,_⟩:=P5 hb;obtain⟨b',j⟩:=k3 id hi;have:qO (r7 upd H) id=some b':=by
  have: ∀{u:List (Nat×qJ)},qO u id=some b'->qO (r7 u H) id=some b':=by
   intro u
   induction u with
   |nil=>intro h;cases h
   |cons q u ih=>
    intro h;simp only[r7,qO] at h|-;split
    .rename_i e;rw[aFz e] at h;exact h
    rename_i e;rw[aFA e] at h;exact ih h
  exact this j
 rw[this] at z;obtain rfl:=aFE z;exact k2 id b' j
theorem je {c i o:Nat}{u:Ty}{x:u.den}{toks:pU}{b0 b:qJ}(Y:W[c]? =some (.box i u x toks o)) (hR:r.H[c]? =some b0) (F:yF base r.H.length i o W u x toks b0=some (i,b)):
  AT (tR g g' base W (qQ upd)) w' i b/\(∀bb oo,sH (tR g g' base W (qQ upd)) i b bb oo->sH g i (.cells u x toks) bb oo/\qO H i=some (.cells u x toks))/\
   ∀bb oo,sH (tR g g' base W (qQ upd)) i b bb oo->sH g' c b0 bb oo\/(bb<w.heap.size/\¬z6 (vI g W) (r5 0 L) bb oo):=by
 obtain⟨hS,hQ,bL,hL,I⟩:=EV hH hm hr hb hf Y;have X:=(P6 hH hm hr hb hf Y).1;have hg:=Ny hH hm hr hb hf;cases bL with
 |grow=>exact I.elim
 |row=>exact I.elim
 |map=>exact I.elim
 |iter=>exact I.elim
 |dead=>exact I.elim
 |cells tL yL tsL=>
  obtain⟨h1,h2,h4⟩:=I;obtain⟨p,cs,hp,hn,hc,ha,hI,hE⟩:=hH.blk i _ h1;cases b0 with
  |grow=>simp [yF] at F
  |row=>simp [yF] at F
  |map=>simp [yF] at F
  |iter=>simp [yF] at F
  |dead=>
   simp only[yF,aFy,aF3,true_and] at F;subst F;exact⟨trivial,fun _ _ h=>h.elim,fun _ _ h=>h.elim⟩
  |cells t y ts=>
   have hD:=hr.ty c _ _ _ _ _ _ hL hR;subst hD;obtain⟨y2,z,hk,K,hq⟩:=ja F
   simp only[aF3,true_and] at hq;subst hq;have hA:=hr.heap.blk c _ (by rw[xY];exact hR);obtain⟨p',cs',he,U,hu,R,hy,ht⟩:=hA;have hN:=hr.J c _ _ _ hL;have hd:g'.J c=some ⟨p.1,p.2+o,p.3⟩:=by
    rw[hN];show vH g W[c]? =_;rw[Y];simp [vH,hp]
   rw[hd] at he;obtain rfl:=aFE he;have hC:Rd (tR g g' base W (qQ upd)) w' u x cs:=wT hg hn;have hB:Rd (tR g g' base W (qQ upd)) w' t y2 cs':=Nz hH hm hr hb hf U hk;obtain⟨c1,c2,c3,hM,hJ,hh,hz⟩:=RN hB hC K;subst hM;subst hJ;have l0:=sZ hn;have l1:=sZ U;simp only[aFD] at l0;have G: ∀q,q<u.cells->¬(c1.length<=q/\q<c1.length+t.cells)->¬z6 (vI g W) (r5 0 L) p.1 (p.2+q):=by
    intro q hq V hx;obtain⟨c',wh',b',blk',k1,k2,k3,k4,k5⟩:=Oc hH hm hx;by_cases hj:c'=c
    .subst hj;rw[Y] at k1;obtain rfl:=aFE k1;rw[hL] at k2;obtain rfl:=aFE k2;obtain⟨pp,E,e1,e2,e3⟩:=k3;have M:vH g W[c']? =some pp:=E;rw[Y] at M;simp only[vH,hp,Option.map_some,aFy] at M;subst M;simp only at e2 e3;exact V ⟨pP,pP⟩
    have hK:wh'.id≠i:=fun e=>hj (XB hm.nodup k1 Y e);exact hH.dis wh'.id i blk' _ p.1 (p.2+q) hK k4 h1 k5 ⟨p,hp,rfl,pP,pP⟩
   have O: ∀q,q<u.cells->p.1<w.heap.size:=fun q hq=>MF (hH.blk i _ h1) (b:=p.1) (o:=p.2+q) ⟨p,hp,rfl,pP,pP⟩;have j: ∀q,q<u.cells->¬(c1.length<=q/\q<c1.length+t.cells)->w'.cell? ⟨p.1,p.2+q,none⟩=w.cell? ⟨p.1,p.2+q,none⟩/\w'.frozen? ⟨p.1,p.2+q,none⟩=w.frozen? ⟨p.1,p.2+q,none⟩:=fun q hq V=>hr.fr.cell _ _ (O q hq) (G q hq V);refine⟨⟨p,c1++cs'++c3,by rw[X];exact hp,hz,fun q vv Q=>?_,⟨fun q hq=>?_,fun h0 s Z=>?_⟩,fun q hq Z=>?_,?_⟩,fun bb oo ho=>⟨?_,h1⟩,fun bb oo ho=>?_⟩
   .by_cases a1:q<c1.length
    .rw[(j q pP pP).1];refine hc q vv ?_;rw[aFO,aFU a1] at Q|-;exact Q
    by_cases a2:q<c1.length+t.cells
    .rw[aFO,aFJ pP,aFU pP] at Q;have:=hu (q-c1.length) vv Q;rwa [show p.2+c1.length+(q-c1.length)=p.2+q from by omega] at this
    rw[aFO,aFJ pP,aFJ pP] at Q;have hq:q<u.cells:=by
     have:=(aFP.1 Q).1;omega
    rw[(j q hq pP).1];refine hc q vv ?_;rw[aFO,aFJ pP,aFJ pP,hh];rw[l1] at Q;exact Q
   .by_cases a1:c1.length<=q/\q<c1.length+t.cells
    .have:=R.1 (q-c1.length) pP;rwa [show p.2+c1.length+(q-c1.length)=p.2+q from by omega] at this
    rw[(j q hq a1).1,(j q hq a1).2];exact ha.1 q hq
   .by_cases hF:0<t.cells
    .exact R.2 hF s Z
    exact(hr.fr.shape p.1 s (ha.2 h0 s Z)).resolve_right fun h=>G 0 h0 pP (h (p.2+0))
   .by_cases a1:c1.length<=q/\q<c1.length+t.cells
    .exact hy (q-c1.length) pP (by rw[show p.2+c1.length+(q-c1.length)=p.2+q from by omega];exact Z)
    rcases hr.fr.new _ _ Z with k|k|k
    .exact hI q hq k
    .have:=O q hq;omega
    exact G q hq a1 k
   .intro q kk D;rcases xG.1 D with D|D
    .obtain⟨q',c',k1,k2,rfl⟩:=XE D;rw[AJ] at k2;obtain⟨u',l,vv,g1,g2,g3⟩:=ht q' c' k1;have hG:=Mr g1;refine⟨u',l,vv,Mq K (Oa hk g1) hG,?_,?_⟩
     .rw[aFO,aFJ pP,aGo,aFU pP];exact g2
     rw[(HY hH hm hr hb hf k2).2];exact g3
    obtain⟨k1,k2⟩:=jc D;obtain⟨u',l,vv,g1,g2,g3⟩:=hE q kk k1;refine⟨u',l,vv,X0 hH K g1 k2,?_,hg.cur _ _ _ g3⟩;rcases aGN q c1.length with a1|a1
    .rw[aFO,aFU a1] at g2|-;exact g2
    rw[aFO,aFJ pP,aFJ pP] at g2|-;rw[l1];rw[hh] at g2;exact g2
   .obtain⟨pp,E,e1,e2,e3⟩:=ho;rw[X,hp] at E;obtain rfl:=aFE E;exact⟨p,hp,e1,e2,e3⟩
   obtain⟨pp,E,e1,e2,e3⟩:=ho;rw[X,hp] at E;obtain rfl:=aFE E;subst e1;by_cases a1:c1.length<=oo-p.2/\oo-p.2<c1.length+t.cells
   .exact .inl ⟨_,hd,rfl,by simp only;omega,by simp only;omega⟩
   right;refine⟨O (oo-p.2) pP,?_⟩;have:=G (oo-p.2) pP a1;rwa [show p.2+(oo-p.2)=oo from by omega] at this
theorem jf {c:Nat}{b0 b:qJ}(hn:W[c]? =none) (Z:r.H[c]? =some b0) (j:yW base r.H.length c W b0=some (base+c,b)):
  AT (tR g g' base W (qQ upd)) w' (base+c) b/\∀bb oo,sH (tR g g' base W (qQ upd)) (base+c) b bb oo->sH g' c b0 bb oo:=by
 have hc:=(aFP.1 Z).1;obtain⟨U,z⟩:=MO hH hm hr hb hf hc hn;have D:=hr.heap.blk c _ (by rw[xY];exact Z);cases b0 with
 |dead=>
  simp only[yW,aFy,aF3,true_and] at j;subst j;exact⟨trivial,fun _ _ h=>h.elim⟩
 |grow e m k=>
  simp only[yW,aFy,aF3,true_and] at j;subst j;obtain⟨u,xs,V,O,M,h3⟩:=D;exact⟨⟨u,xs,by rw[z];exact V,O,fun m I=>by rw[z];exact M m I,h3⟩,fun bb oo ⟨v',E,K⟩=>⟨v',by rw[z] at E;exact E,K⟩⟩
 |row e t l n=>
  simp only[yW] at j;split at j
  .rename_i hp;simp only[aFy,aF3,true_and] at j;subst j;obtain⟨h0,u,xs,V,O,h4,M,h3⟩:=D;exact⟨⟨h0,u,xs,by rw[z];exact V,O,CX (fun _ _ h=>wC (g:=g') (g':=tR g g' base W (qQ upd)) rfl hp h) h4,fun m I=>by rw[z];exact M m I,h3⟩,fun bb oo ⟨v',E,K⟩=>⟨v',by rw[z] at E;exact E,K⟩⟩
  .cases j
 |iter s n=>simp [yW] at j
 |map k v l=>
  simp only[yW] at j;split at j
  .rename_i hp;rw[aFL] at hp;simp only[aFy,aF3,true_and] at j;subst j;obtain⟨p,es,cl,G,X,hh,hM,hS⟩:=D;exact⟨⟨p,es,cl,by rw[U];exact G,X,hh,RM (g:=g') (g':=tR g g' base W (qQ upd)) rfl hp.1 hp.2 hM,hS⟩,fun bb oo ⟨pp,F,e⟩=>⟨pp,by rw[U] at F;exact F,e⟩⟩
  .cases j
 |cells t y ts=>
  have fin: ∀y2,bY base r.H.length W t y y2->AT (tR g g' base W (qQ upd)) w' (base+c) (.cells t y2 (EM base r.H.length W 0 ts))/\∀bb oo,sH (tR g g' base W (qQ upd)) (base+c) (.cells t y2 (EM base r.H.length W 0 ts)) bb oo->sH g' c (.cells t y ts) bb oo:=by
   intro y2 Q;obtain⟨p,cs,G,Y,O,M,h3,h4⟩:=D;refine⟨⟨p,cs,by rw[U];exact G,Nz hH hm hr hb hf Y Q,O,M,h3,fun q kk R=>?_⟩,fun bb oo ⟨pp,F,e⟩=>⟨pp,by rw[U] at F;exact F,e⟩⟩;obtain⟨q',c',k1,k2,rfl⟩:=XE R;rw[AJ] at k2;obtain⟨u',l,vv,g1,g2,g3⟩:=h4 q' c' k1;exact⟨u',l,vv,by rw[aF6];exact Oa Q g1,by rw[aF6];exact g2,by rw[(HY hH hm hr hb hf k2).2];exact g3⟩
  simp only[yW] at j;split at j
  .rename_i hp;simp only[aFy,aF3,true_and] at j;subst j;exact fin y (.inl ⟨hp,rfl⟩)
  obtain⟨y2,hy,hq⟩:=Nv j;simp only[aF3,true_and] at hq;subst hq;exact fin y2 (.inr hy)
theorem jg {c k:Nat}{b0 b:qJ}(X:W[c]? =some (.tok k)) (Z:r.H[c]? =some b0) (j:wR k b0=some (k,b)):
  AT (tR g g' base W (qQ upd)) w' k b/\∀bb oo,sH (tR g g' base W (qQ upd)) k b bb oo->sH g' c b0 bb oo:=by
 obtain⟨U,z⟩:=Nx hH hm hr hb hf X;have E:=hr.heap.blk c _ (by rw[xY];exact Z);cases b0 with
 |dead=>
  simp only[wR,aFy,aF3,true_and] at j;subst j;exact⟨trivial,fun _ _ h=>h.elim⟩
 |grow e m n=>
  simp only[wR,aFy,aF3,true_and] at j;subst j;obtain⟨u,xs,K,O,M,h3⟩:=E;exact⟨⟨u,xs,by rw[z];exact K,O,fun m F=>by rw[z];exact M m F,h3⟩,fun bb oo ⟨v',D,G⟩=>⟨v',by rw[z] at D;exact D,G⟩⟩
 |row e t l n=>
  simp only[wR] at j;split at j
  .rename_i hp;simp only[aFy,aF3,true_and] at j;subst j;obtain⟨h0,u,xs,K,O,h4,M,h3⟩:=E;exact⟨⟨h0,u,xs,by rw[z];exact K,O,CX (fun _ _ h=>wC (g:=g') (g':=tR g g' base W (qQ upd)) rfl hp h) h4,fun m F=>by rw[z];exact M m F,h3⟩,fun bb oo ⟨v',D,G⟩=>⟨v',by rw[z] at D;exact D,G⟩⟩
  .cases j
 |iter s n=>simp [wR] at j
 |map s v l=>
  simp only[wR] at j;split at j
  .rename_i hp;rw[aFL] at hp;simp only[aFy,aF3,true_and] at j;subst j;obtain⟨p,es,cl,Q,R,V,hM,Y⟩:=E;exact⟨⟨p,es,cl,by rw[U];exact Q,R,V,RM (g:=g') (g':=tR g g' base W (qQ upd)) rfl hp.1 hp.2 hM,Y⟩,fun bb oo ⟨pp,I,e⟩=>⟨pp,by rw[U] at I;exact I,e⟩⟩
  .cases j
 |cells t y ts=>simp [wR] at j
theorem a5J {side:List Prop}{s:qK}{rds:pZ}{vv:q9}(X:rS (tR g g' base W (qQ upd)) w' s vv):rR g w H ⟨side,s,upd,rds⟩ (tR g g' base W (qQ upd)) w' vv:=by
 have le:=Ny hH hm hr hb hf;have fr:=a5I hH hm hr hb hf;have gho: ∀i,i∉qQ upd->(tR g g' base W (qQ upd)).J i=g.J i/\(tR g g' base W (qQ upd)).cur i=g.cur i:=fun i hi=>
  Nw hH hm hr hb hf (fun h=>hi h.2) (XD fun c Z=>hi ((EV hH hm hr hb hf Z).1))
 have perm: ∀i blk b o,i∈qQ upd->qO (r7 upd H) i=some blk->sH (tR g g' base W (qQ upd)) i blk b o->w.heap.size<=b\/sY g H (qQ upd) b o:=by
  intro i blk b o hi F ho;rcases XF hH hm hr hb hf hi F with⟨c,i',u,x,toks,off,b0,D,E,h3,h4⟩ |⟨c,k,b0,D,E,h3,h4⟩ |⟨c,b0,D,E,h3,h4⟩
  .subst E;obtain⟨_,k2,_⟩:=je hH hm hr hb hf D h3 h4;exact .inr ⟨i,_,hi,(k2 b o ho).2,(k2 b o ho).1⟩
  .subst E;obtain⟨_,k2⟩:=jg hH hm hr hb hf D h3 h4;exact(hr.perm c b0 b o h3 (k2 b o ho)).imp id fun h=>jd hH hm hr hb hf h
  rw[aF6] at E h4;subst E;obtain⟨_,k2⟩:=jf hH hm hr hb hf h3 D h4;exact(hr.perm c b0 b o D (k2 b o ho)).imp id fun h=>jd hH hm hr hb hf h
 refine⟨le,X,hH.upd le fr perm gho (fun i blk hi F=>?_) (fun i j bi bj b o hi Y I U R O M=>?_) (fun b o h=>hr.heap.sl b o h),fr,perm,gho,fun i u' y us h=>?_⟩
 .rcases XF hH hm hr hb hf hi F with⟨c,i',u,x,toks,off,b0,D,E,h3,h4⟩ |⟨c,k,b0,D,E,h3,h4⟩ |⟨c,b0,D,E,h3,h4⟩
  .subst E;exact(je hH hm hr hb hf D h3 h4).1
  .subst E;exact(jg hH hm hr hb hf D h3 h4).1
  rw[aF6] at E h4;subst E;exact(jf hH hm hr hb hf h3 D h4).1
 .have cls: ∀{i:Nat}{blk:qJ},i∈qQ upd->qO (r7 upd H) i=some blk->sH (tR g g' base W (qQ upd)) i blk b o->
    (∃c u x toks off b0,W[c]? =some (.box i u x toks off)/\r.H[c]? =some b0/\sH g i (.cells u x toks) b o/\qO H i=some (.cells u x toks)/\(sH g' c b0 b o\/(b<w.heap.size/\¬z6 (vI g W) (r5 0 L) b o)))\/
    (∃c b0,AC base r.H.length c W[c]? =some i/\r.H[c]? =some b0/\sH g' c b0 b o):=by
   intro i blk hi F ho;rcases XF hH hm hr hb hf hi F with⟨c,i',u,x,toks,off,b0,D,E,h3,h4⟩ |⟨c,k,b0,D,E,h3,h4⟩ |⟨c,b0,D,E,h3,h4⟩
   .subst E;obtain⟨_,k2,k3⟩:=je hH hm hr hb hf D h3 h4;exact .inl ⟨c,u,x,toks,off,b0,D,h3,(k2 b o ho).1,(k2 b o ho).2,k3 b o ho⟩
   .subst E;obtain⟨_,k2⟩:=jg hH hm hr hb hf D h3 h4;exact .inr ⟨c,b0,by rw[D];rfl,h3,k2 b o ho⟩
   rw[aF6] at E h4;subst E;obtain⟨_,k2⟩:=jf hH hm hr hb hf h3 D h4;exact .inr ⟨c,b0,by rw[h3];simp only[AC];rw[aFz (aFP.1 D).1],D,k2 b o ho⟩
  have cross: ∀{c c':Nat}{b0 b1:qJ},c≠c'->r.H[c]? =some b0->r.H[c']? =some b1->sH g' c b0 b o->sH g' c' b1 b o->False:=fun Q D E o1 o2=>
   hr.heap.dis _ _ _ _ b o Q (by rw[xY];exact D) (by rw[xY];exact E) o1 o2
  rcases cls hi U O with⟨c,u,x,toks,off,b0,D,E,h3,h4,K⟩ |⟨c,b0,D,h3,h4⟩<;>rcases cls Y R M with⟨c',u',x',toks',off',b0',k1,k2,k3,k4,k5⟩ |⟨c',b0',k1,k3,k4⟩
  .exact hH.dis i j _ _ b o I h4 k4 h3 k3
  .rcases K with K|⟨K,h6⟩
   .exact cross (fun e=>by subst e;rw[D] at k1;cases k1) E k3 K k4
   rcases hr.perm c' b0' b o k3 k4 with h|h
   .omega
   exact h6 h
  .rcases k5 with k5|⟨k5,k6⟩
   .exact cross (fun e=>by subst e;rw[k1] at D;cases D) h3 k2 h4 k5
   rcases hr.perm c b0 b o h3 h4 with h|h
   .omega
   exact k6 h
  exact cross (fun e=>by subst e;rw[D] at k1;exact I (aFE k1)) h3 k3 h4 k4
 by_cases hi:i∈qQ upd
 .rcases XF hH hm hr hb hf hi h with⟨c,i',u,x,toks,off,b0,D,E,h3,h4⟩ |⟨c,k,b0,D,E,h3,h4⟩ |⟨c,b0,D,E,h3,h4⟩
  .subst E;obtain⟨_,_,bL,hL,G⟩:=EV hH hm hr hb hf D;cases b0 with
   |cells t y0 ts=>
    obtain⟨y2,z,_,V,hq⟩:=ja h4;simp only[aF3,qJ.cells.injEq,true_and] at hq;obtain⟨rfl,_⟩:=hq;cases bL with
    |cells=>exact .inl ⟨x,toks,G.1⟩
    |_=>exact G.elim
   |grow=>simp [yF] at h4
   |row=>simp [yF] at h4
   |map=>simp [yF] at h4
   |iter=>simp [yF] at h4
   |dead=>simp [yF] at h4
  .cases b0 with
   |cells t y0 ts=>simp [wR] at h4
   |iter=>simp [wR] at h4
   |map=>simp only[wR] at h4;split at h4<;>simp at h4
   |row=>simp only[wR] at h4;split at h4<;>simp at h4
   |_=>simp [wR] at h4
  rw[aF6] at E;exact .inr (hf i hi pP)
 exact .inl ⟨y,us,(AU hi).symm.trans h⟩
end
section
variable {P:Program}{g:Gh}{w:q8}
def a5K (P:Program) (g:Gh) (w:q8) (d:Nat) (ty:Ty) (x y:ty.den):gd->Prop
 | .ty t=> ∀vx vy,tD g w ty x vx->tD g w ty y vy->∃b,CM ty x y=some b/\(Op.equalIn (d+1) t vx vy).run P w= .ok b w
 | .fs o l=> ∀px py cx cy,px.length=o->py.length=o->Rd g w ty x cx->Rd g w ty y cy->∃b,CM ty x y=some b/\(Op.eqFields (d+1) (px++cx).toArray (py++cy).toArray l).run P w= .ok b w
 | .el e i m=> ∀px py cx cy,px.length=i*P.cellsOf e->py.length=i*P.cellsOf e->Rd g w ty x cx->Rd g w ty y cy->∃b,CM ty x y=some b/\(Op.eqItems (d+1) e (P.cellsOf e) (px++cx).toArray (py++cy).toArray (List.range' i m)).run P w= .ok b w
theorem a5L {e:TypeId}{n:Nat}(h:(P.info? e).map (·.size)=some n):P.cellsOf e=n:=by
 obtain⟨i,z,j⟩:=aFQ.1 h;simp [Program.cellsOf,z,j]
theorem zK.run {n:Nat}{ix:gd}{ty:Ty}(h:zK P n ix ty): ∀(d:Nat),n<=d->∀x y:ty.den,a5K P g w d ty x y ix:=by
 induction h with
 |bool F=>
  intro d _ x y vx vy I G;obtain rfl:=vT I;obtain rfl:=vT G;exact⟨_,rfl,run_equalIn_bool' w d _ _ _ F⟩
 |int F=>
  intro d _ x y vx vy I G;obtain rfl:=wD I;obtain rfl:=wD G;refine⟨_,rfl,(run_equalIn_int w d _ _ _ _ _ F).trans ?_⟩;congr 1
 |str F=>
  intro d _ x y vx vy I G;obtain rfl:=wX I;obtain rfl:=wX G;refine⟨_,rfl,(run_equalIn_string w d _ _ _ F).trans ?_⟩;congr 1;rw[ByteArray.toList_eq,ByteArray.toList_eq];exact RQ _ _
 | @struct h0 t0 fs0 ty0 hr F R _ ih=>
  intro d K x y vx vy I G;obtain⟨cx,rfl,rx⟩:=MI hr I;obtain⟨cy,rfl,ry⟩:=MI hr G;obtain⟨d,rfl⟩: ∃d',d=d'+1:=⟨d-1,pP⟩;obtain⟨b,O,M⟩:=ih d pP x y [] [] cx cy rfl rfl rx ry;refine⟨b,O,?_⟩;have hf:P.fieldsOf t0=fs0:=by unfold Program.fieldsOf;rw[F]
  rw[run_equalIn_struct w _ _ _ _ (by rw[hf];exact F) R,hf];simpa using M
 |arr hr F hi _ ih=>
  intro d K x y vx vy I G;obtain⟨cx,rfl,rx⟩:=MI hr I;obtain⟨cy,rfl,ry⟩:=MI hr G;obtain⟨d,rfl⟩: ∃d',d=d'+1:=⟨d-1,pP⟩;obtain⟨b,O,M⟩:=ih d pP x y [] [] cx cy pR pR rx ry;refine⟨b,O,?_⟩;obtain⟨i,hi⟩:=aFB.1 hi;rw[run_equalIn_array w _ _ _ F hi,List.range_eq_range'];simpa using M
 |nil=>
  intro d _ x y px py cx cy _ _ _ _;exact⟨true,rfl,by simp [Op.eqFields]⟩
 |anil=>
  intro d _ x y px py cx cy _ _ _ _;exact⟨true,rfl,by simp [Op.eqItems]⟩
 | @cons h o f r a b U ho z j _ _ iha ihb=>
  intro d K x y px py cx cy E D ⟨x1,x2,ex,rx1,rx2⟩ ⟨y1,y2,ey,ry1,ry2⟩;subst ex;subst ey;obtain⟨vx,p1,v1⟩:=RR (P:=P) (c1:=px) (c3:=x2) z j rx1;obtain⟨vy,p2,v2⟩:=RR (P:=P) (c1:=py) (c3:=y2) z j ry1;obtain⟨b1,e1,r1⟩:=iha d K x.1 y.1 vx vy v1 v2;obtain⟨b2,e2,r2⟩:=ihb d K x.2 y.2 (px++x1) (py++y1) x2 y2 (by rw[aFD,E,sZ rx1]) (by rw[aFD,D,sZ ry1]) rx2 ry2;refine⟨b1&&b2,by simp only[CM,e1,e2,CM.eqAnd],?_⟩;rw[aFO] at p1 p2 r2;rw[aFO] at r2;rw[E,<-ho] at p1;rw[D,<-ho] at p2;simp only[Op.eqFields,aFz U,aFM,p1,p2,aFH,r1];cases b1
  .simp
  .simpa using r2
 | @acons h e i m a b z j _ _ iha ihb=>
  intro d K x y px py cx cy E D ⟨x1,x2,ex,rx1,rx2⟩ ⟨y1,y2,ey,ry1,ry2⟩;subst ex;subst ey;have Q:=a5L z;obtain⟨vx,p1,v1⟩:=RR (P:=P) (c1:=px) (c3:=x2) z j rx1;obtain⟨vy,p2,v2⟩:=RR (P:=P) (c1:=py) (c3:=y2) z j ry1;obtain⟨b1,e1,r1⟩:=iha d K x.1 y.1 vx vy v1 v2;obtain⟨b2,e2,r2⟩:=ihb d K x.2 y.2 (px++x1) (py++y1) x2 y2 (by rw[aFD,E,sZ rx1,Q,aGO]) (by rw[aFD,D,sZ ry1,Q,aGO]) rx2 ry2;refine⟨b1&&b2,by simp only[CM,e1,e2,CM.eqAnd],?_⟩;rw[aFO] at p1 p2 r2;rw[aFO] at r2;rw[E] at p1;rw[D] at p2;simp only[aHn,Op.eqItems,aFM,p1,p2,aFH,r1];cases b1
  .simp
  simpa using r2
def HZ:q9->Bool
 | .nilFunc=>true
 |_=>false
theorem a5M {w:q8}(d:Nat) {t:TypeId}{a b:_}{c:_}(h:P.underlying t=some (.func a b c)) (v:q9) (j:v= .nilFunc\/∃f y z,v= .func f y z):
  (Op.equalIn (d+1) t v .nilFunc).run P w= .ok (HZ v) w:=by
 rcases j with rfl|⟨f,y,z,rfl⟩<;>simp [Op.equalIn,aFX h,HZ]
theorem Od {w:q8}{t:TypeId}{a b:_}{c:_}(h:P.underlying t=some (.func a b c)) (v:q9) (D:v= .nilFunc\/∃f y z,v= .func f y z):
  (Go.binOp .eql t v .nilFunc).run P w= .ok (.bool (HZ v)) w/\(Go.binOp .neq t v .nilFunc).run P w= .ok (.bool (!(HZ v))) w:=by
 have E:=a5M (P:=P) (w:=w) 9999 h v D;have j:(Op.equal t v .nilFunc).run P w= .ok (HZ v) w:=E;rcases D with rfl|⟨f,y,z,rfl⟩
 .exact⟨by simp only[Go.binOp,aFM,j];rfl,by simp only[Go.binOp,aFM,j];rfl⟩
 exact⟨by simp only[Go.binOp,aFM,j];rfl,by simp only[Go.binOp,aFM,j];rfl⟩
variable {o:Oper}{a:Act}{H:sF}{T:sW}(hT:xU P T) (hH:sK g w H)
include hT hH
theorem a5N {op:BinOp}{xt yt:TypeId}{x y:Operand}(ho:o.op= .binOp op xt x y yt) {sx sy:qK}(O:rS g w sx (a.eval x)) (M:rS g w sy (a.eval y)) {e:qY}
  (hr:B6 (cb (rY T xt) op sx sy)=some e):rN P o a g w H e:=by
 obtain⟨q,hq,rfl⟩:=JV hr;have go: ∀{u v:q9},a.eval x=u->a.eval y=v->(∃z,(do eqGuard op xt x y u v;Go.binOp op xt u v:Sem q9).run P w= .ok z w/\zJ g w q.2 z)->rN P o a g w H ⟨q.1,(q.2,none),[],[]⟩:=by
  rintro u v rfl rfl ⟨z,hz,j⟩;refine rN.pure hH (v:=z) ?_ j;unfold execOp;rw[ho];simp only[aFM,aF0] at hz|-;rw[hz];rfl
 replace O:=O.1;replace M:=M.1;generalize G:rY T xt=oti at hq;unfold cb at hq;split at hq
 .rename_i u el by' ar ls_ t l k k';have j:=(t7 hT G).2;simp only[xT] at j;obtain⟨ax,cx,ex,hg,U⟩:=ER O;have F:ax=none->l=[]:=fun h=>by
   rcases U with E|⟨b,o,E,_⟩
   .exact E
   rw[h] at E;cases E
  have ey:a.eval y= .slice none 0 0:=M;refine go ex ey ?_;unfold UV at hq;split at hq
  .cases hq;have E:(do eqGuard .eql xt x y (.slice ax (List.length l) cx) (.slice none 0 0);Go.binOp .eql xt (.slice ax (List.length l) cx) (.slice none 0 0):Sem q9).run P w= .ok (.bool ax.isNone) w:=by
    simp only[aFM];rw[show (eqGuard .eql xt x y (.slice ax (List.length l) cx) (.slice none 0 0)).run P w= .ok () w from by simp [eqGuard]];exact Lib.run_eql_slice_nil (P:=P) w xt _ ax (List.length l) cx 0 0 j.1
   exact⟨_,E,_,rfl,fun h=>F (by simpa using h),fun _=>trivial⟩
  .cases hq;have E:(do eqGuard .neq xt x y (.slice ax (List.length l) cx) (.slice none 0 0);Go.binOp .neq xt (.slice ax (List.length l) cx) (.slice none 0 0):Sem q9).run P w= .ok (.bool (!ax.isNone)) w:=by
    simp only[aFM];rw[show (eqGuard .neq xt x y (.slice ax (List.length l) cx) (.slice none 0 0)).run P w= .ok () w from by simp [eqGuard]];exact run_neq_slice_nil_any (P:=P) w xt _ ax (List.length l) cx 0 0 j.1
   exact⟨_,E,_,rfl,fun _=>trivial,fun h=>F (by simpa using h)⟩
  cases hq
 .rename_i u el by' ar ls_ k t l k';have j:=(t7 hT G).2;simp only[xT] at j;obtain⟨ay,cy,ey,hg,U⟩:=ER M;have F:ay=none->l=[]:=fun h=>by
   rcases U with E|⟨b,o,E,_⟩
   .exact E
   rw[h] at E;cases E
  have ex:a.eval x= .slice none 0 0:=O;refine go ex ey ?_;unfold UV at hq;split at hq
  .cases hq;have E:(do eqGuard .eql xt x y (.slice none 0 0) (.slice ay (List.length l) cy);Go.binOp .eql xt (.slice none 0 0) (.slice ay (List.length l) cy):Sem q9).run P w= .ok (.bool ay.isNone) w:=by
    simp only[aFM];rw[show (eqGuard .eql xt x y (.slice none 0 0) (.slice ay (List.length l) cy)).run P w= .ok () w from by simp [eqGuard]];exact run_eql_nil_slice (P:=P) w xt _ ay (List.length l) cy 0 0 j.1
   exact⟨_,E,_,rfl,fun h=>F (by simpa using h),fun _=>trivial⟩
  .cases hq;have E:(do eqGuard .neq xt x y (.slice none 0 0) (.slice ay (List.length l) cy);Go.binOp .neq xt (.slice none 0 0) (.slice ay (List.length l) cy):Sem q9).run P w= .ok (.bool (!ay.isNone)) w:=by
    simp only[aFM];rw[show (eqGuard .neq xt x y (.slice none 0 0) (.slice ay (List.length l) cy)).run P w= .ok () w from by simp [eqGuard]];exact run_neq_nil_slice (P:=P) w xt _ ay (List.length l) cy 0 0 j.1
   exact⟨_,E,_,rfl,fun _=>trivial,fun h=>F (by simpa using h)⟩
  cases hq
 .rename_i el by' ar ls_ x' k1 k2;have j:=(t7 hT G).2;simp only[xT] at j;obtain⟨fa,fb,fc,j⟩:=j.1;have ey:a.eval y= .nilFunc:=by
   have:=xV rfl M;simpa[Rd,JS] using this
  obtain⟨hf,hm⟩:(a.eval x= .nilFunc\/∃f y z,a.eval x= .func f y z)/\HZ (a.eval x)=decide (x'.1=0):=by
   obtain⟨c,i,⟨k3,n3⟩,⟨k4,n4⟩⟩:=x';rcases xV rfl O with⟨h0,e⟩ |⟨h0,b,α,e,_⟩
   .simp only[aGm,and_true] at e;rw[e];exact⟨.inl rfl,by simp [h0,HZ]⟩
   simp only[aGm,and_true] at e;rw[e];exact⟨.inr ⟨_,_,_,rfl⟩,by simp [h0,HZ]⟩
  have D:=Od (P:=P) (w:=w) j (a.eval x) hf;rw[hm] at D;refine go rfl ey ?_;have I: ∀op,(eqGuard op xt x y (a.eval x) .nilFunc).run P w= .ok () w:=fun op=>by
   rcases hf with e|⟨f,x1,x2,e⟩<;>rw[e]<;>cases op<;>simp [eqGuard]
  unfold OJ at hq;split at hq
  .rename_i r e1;cases e1;cases hq;exact⟨_,by simp only[aFM,I,aFH];exact D.1,vU _ _ _⟩
  .rename_i r e1;cases e1;cases hq;exact⟨_,by simp only[aFM,I,aFH];exact D.2,vU _ _ _⟩
  cases hq
 .rename_i el by' ar ls_ x' k1 k2;have j:=(t7 hT G).2;simp only[xT] at j;obtain⟨fa,fb,fc,j⟩:=j;have ey:a.eval y= .nilFunc:=by
   have:=xV rfl M;simpa[Rd,JS] using this
  obtain⟨hf,hm⟩:(a.eval x= .nilFunc\/∃f y z,a.eval x= .func f y z)/\HZ (a.eval x)=zO x':=by
   have e:=xV rfl O;cases x' with
   |none=>
    simp only[Rd,WQ,aGm,and_true] at e;rw[e];exact⟨.inl rfl,rfl⟩
   |some f=>
    simp only[Rd,WQ,aGm,and_true] at e;rw[e];exact⟨.inr ⟨_,_,_,rfl⟩,rfl⟩
  have D:=Od (P:=P) (w:=w) j (a.eval x) hf;rw[hm] at D;refine go rfl ey ?_;have I: ∀op,(eqGuard op xt x y (a.eval x) .nilFunc).run P w= .ok () w:=fun op=>by
   rcases hf with e|⟨f,x1,x2,e⟩<;>rw[e]<;>cases op<;>simp [eqGuard]
  unfold OJ at hq;split at hq
  .rename_i r e1;cases e1;cases hq;exact⟨_,by simp only[aFM,I,aFH];exact D.1,vU _ _ _⟩
  .rename_i r e1;cases e1;cases hq;exact⟨_,by simp only[aFM,I,aFH];exact D.2,vU _ _ _⟩
  cases hq
 .rename_i u el b ar ls_ t x' k t' y' k' _ _;unfold Jg at hq;split at hq
  .rename_i ha;subst ha;split at hq
   .rename_i hc;obtain⟨rfl,hc⟩:=hc;simp only[uG] at hq;obtain⟨r,X,D⟩: ∃r,CM t' x' y'=some r/\((op= .eql/\q=([],.val .bool r))\/(op= .neq/\q=([],.val .bool (!r)))):=by
     generalize hn:CM t' x' y'=od at hq;unfold OJ at hq;split at hq
     .rename_i r;cases hq;exact⟨r,rfl,.inl ⟨rfl,rfl⟩⟩
     .rename_i r;cases hq;exact⟨r,rfl,.inr ⟨rfl,rfl⟩⟩
     cases hq
    have Q:=t7 hT G;rcases hc with rfl|⟨K,rfl⟩
    .have j:=Q.2;simp only[xT] at j;obtain hk:=vT O;obtain hj:=vT M;refine go hk hj ?_;have he:r=(x'==y'):=(aFE X).symm;subst he;have R:=run_equalIn_bool' (P:=P) w 9999 xt x' y' j;rcases D with⟨rfl,rfl⟩ |⟨rfl,rfl⟩
     .refine⟨.bool (x'==y'),?_,vU _ _ _⟩;simp only[aFM];rw[show (eqGuard .eql xt x y (.bool x') (.bool y')).run P w= .ok () w from by simp [eqGuard]];simp only[aFH,Go.binOp,Op.equal,Op.maxDepth,aFM,R,aF0]
     refine⟨.bool (!(x'==y')),?_,vU _ _ _⟩;simp only[aFM];rw[show (eqGuard .neq xt x y (.bool x') (.bool y')).run P w= .ok () w from by simp [eqGuard]];simp only[aFH,Go.binOp,Op.equal,Op.maxDepth,aFM,R,aF0]
    have h2:=Q.2;have heq:P.eqGuardType P.depth xt=false/\∃h,h<9000/\zK P h (.ty xt) t':=by
     unfold xT at h2;cases t'<;>simp only[Ty.isRow,aG2] at K
     all_goals exact h2.2 rfl
    obtain⟨Y,hh,hs,hE⟩:=heq;obtain⟨cx,ex,rx⟩:=MI K O;obtain⟨cy,ey,ry⟩:=MI K M;obtain⟨b',Z,V⟩:=hE.run (g:=g) (w:=w) 9999 pP x' y' _ _ O M;rw[X] at Z;obtain rfl:=aFE Z;rw[ex,ey] at V;refine go ex ey ?_;rcases D with⟨rfl,rfl⟩ |⟨rfl,rfl⟩
    .refine⟨.bool r,?_,vU _ _ _⟩;simp only[aFM];rw[run_eqGuard_agg w _ _ _ _ _ _ Y];simp only[aFH];rw[run_eql_struct,V];rfl
    refine⟨.bool (!r),?_,vU _ _ _⟩;simp only[aFM];rw[run_eqGuard_agg w _ _ _ _ _ _ Y];simp only[aFH];rw[run_neq_struct,V];rfl
   cases hq
  cases hq
 cases hq
end
end Go.Proofs.YtcpbaddnmpeipaaGreatDoor.Vc
namespace Go.Proofs.YtcpbaddnmpeipaaGreatDoor.Vc
open Go.RowKit
theorem a5O (s:pL):Lib.strCells ⟨s.toArray⟩=s.map fun b=>Value.int .u8 b.toNat:=by
 simp [Lib.strCells]
theorem a5P {P:Program}(w:q8) (t u ty e:TypeId) (i:TypeInfo) (ht:P.underlying t=some (.slice e)) (Z:P.underlying u=some .string) (hi:P.info? e=some i) (hz:i.zero=some (.int .u8 0))
  (F:i.size=1) (R:i.bytes=1) (v:q9) (n:Nat) (xs:pW) (E:w.ownsRow 0 e 1 v n xs) (s:ByteArray) (hm:0<s.size)
  (U:n+s.size<=maxLen) (Y:n+s.size<=140737488355328):
  ∃q cap w',(Builtin.append_ #[t,u] ty #[v,.string s]).run P w= .ok (.slice (some ⟨q,0,none⟩) (n+s.size) cap) w'/\w'.ownsRow 0 e 1 (.slice (some ⟨q,0,none⟩) (n+s.size) cap) (n+s.size) (xs++Lib.strCells s)/\
   (q=w.heap.size\/v.ownBlock=some q)/\w.grownBy w' v.ownBlock/\n+s.size<=cap/\
   ∀b o,b<w.heap.size->(v.ownBlock=some b->o<n*1)->w'.cell? ⟨b,o,none⟩=w.cell? ⟨b,o,none⟩:=by
 have X:n+s.size<=9223372036854775807:=by simp only[maxLen] at U;omega
 have G:xs.length=n:=by simpa using E.1
 have D:(xs++Lib.strCells s).length=(n+s.size)*1:=by rw[aFD,G,Lib.strCells_length,aHj]
 have grown: ∀(old:Nat),old<n+s.size->∀(row:pY),
   (w.drew.alloc (.cells (xs.toArray++(Lib.strCells s).toArray++Builtin.zeroCells (Value.int .u8 0).cells (grownCap w (n+s.size) old e- (n+s.size))) e)).ownsRow 0 e 1
    (.slice (some ⟨w.heap.size,0,none⟩) (n+s.size) (grownCap w (n+s.size) old e)) (n+s.size) (xs++Lib.strCells s)/\
   w.grownBy (w.drew.alloc (.cells (xs.toArray++(Lib.strCells s).toArray++Builtin.zeroCells (Value.int .u8 0).cells (grownCap w (n+s.size) old e- (n+s.size))) e)) row/\n+s.size<=grownCap w (n+s.size) old e/\
   ∀b o,b<w.heap.size->(w.drew.alloc (.cells (xs.toArray++(Lib.strCells s).toArray++Builtin.zeroCells (Value.int .u8 0).cells (grownCap w (n+s.size) old e- (n+s.size))) e)).cell? ⟨b,o,none⟩=w.cell? ⟨b,o,none⟩:=by
  intro old ho row;have Q:=grownCap_ge w (n+s.size) old e;have hcm:grownCap w (n+s.size) old e<=maxLen:=grownCap_le_maxLen w (n+s.size) old e U;refine⟨⟨D,.inr ⟨w.heap.size,_,_,rfl,aGu _,aHH w.drew _,Q,hcm,?_,?_⟩⟩,⟨rfl,rfl,rfl,by simp,fun k hk _=>aF5 w.drew _ k hk⟩,Q,fun b o hb=>aFY (w:=w) (a:=⟨b,o,none⟩) (aF5 w.drew _ b hb)⟩
  .have ha:(Value.int IntKind.u8 0).cells.size=1:=rfl;simp only[aHJ,aGy,size_zeroCells,ha,G,Lib.strCells_length];omega
  simp only[Array.toList_append,aFO];rw[<-aFO,<-D];exact aHa
 rcases E.2 with⟨rfl,rfl⟩ |⟨g,cap,cur,rfl,hh,V,hs,hcm,he,K⟩
 .have hx:xs=[]:=aF4 G;subst hx;have hr:=run_append_nil_string (P:=P) w t u ty e i (.int .u8 0) ht Z hi hz s pP pP (by rw[R];omega);have h:=grown 0 pP (Value.ownBlock (.slice none 0 0));simp only[aF6,List.nil_append,Array.empty_append] at h|-;have e1:(s.data.map fun b=>Value.int .u8 b.toNat)=(Lib.strCells s).toArray:=by
   apply Array.ext';simp [Lib.strCells]
  rw[e1] at hr;exact⟨_,_,_,hr,h.1,.inl rfl,h.2.1,h.2.2.1,fun b o hb _=>h.2.2.2 b o hb⟩
 by_cases z:n+s.size<=cap
 .have hn:cur.size=cap:=by simpa using he
  have hr:=Lib.run_append_room_string (P:=P) w t u ty e i ht Z hi F g n cap cur V s z pP;refine⟨_,_,_,hr,⟨D,.inr ⟨g,cap,_,rfl,hh,aHK w g cur _ e _ V,z,hcm,?_,?_⟩⟩,.inr rfl,⟨rfl,rfl,rfl,by simp,fun k _ hk=>aHr w g k _ (fun e=>hk (by simp [Value.ownBlock,e]))⟩,z,fun b o hb hd=>?_⟩
  .simp only[aGy,aFD,aGh,aGa,aGv,Lib.strCells_length];omega
  .have hc:cur.toList.take n=xs:=by simpa using K
   rw[hc,<-D];exact aHa
  by_cases I:b=g
  .subst I;have ho:=hd rfl;rw[cell_setRow_same w b o cur _ e _ V,cell_of_row w b o cur e (0,0) V];have O:o<(cur.toList.take n).length:=by rw[aGh,aGv];omega
   have hj:o<cur.size:=by rw[aGh,aGv] at O;omega
   simp only[List.getElem?_toArray,aFO];rw[aFU O,List.getElem?_take,aFz pP];simp
  exact aFY (a:=⟨b,o,none⟩) (aHr w g b _ I)
 have M: ∀j u,xs[j]? =some u->w.cell? ((⟨g,0,none⟩:Addr).add j)=some u:=E.cells (g:=g) rfl;have hr:=Lib.run_append_grow_string (P:=P) w t u ty e i (.int .u8 0) ht Z hi hz ⟨g,0,none⟩ n cap xs (by rw[F];simpa using G) M s pP pP (by rw[R];exact growslice_fits pP pP);have h:=grown cap pP (Value.ownBlock (.slice (some ⟨g,0,none⟩) n cap));exact⟨_,_,_,hr,h.1,.inl rfl,h.2.1,h.2.2.1,fun b o hb _=>h.2.2.2 b o hb⟩
theorem a5Q {P:Program}(w:q8) (t u ty e:TypeId) (i:TypeInfo) (D:P.underlying t=some (.slice e)) (z:P.underlying u=some .string) (hi:P.info? e=some i) (h:i.size=1) (ad:Option Addr) (n c:Nat) (j:n<=c):
  (Builtin.append_ #[t,u] ty #[.slice ad n c,.string ⟨#[]⟩]).run P w= .ok (.slice ad n c) w:=by
 have hf:=Lib.run_firstCells_string (P:=P) w 1 ⟨#[]⟩;have hm:(⟨#[]⟩:ByteArray).size=0:=rfl;rw[hm] at hf;cases ad<;>simp [Builtin.append_,aFX D,aFX z,sizeOf,typeInfo,hi,h,Builtin.lenOf,hm,hf,j,Lib.strCells,storeCells]
theorem Oe (g:Gh) (w:q8): ∀s:pL,uD (Rd g w (.int .u8)) 1 (uQ s) (s.map fun b=>Value.int .u8 b.toNat)
 |[]=>rfl
 |b::s=>⟨[.int .u8 b.toNat],_,rfl,rfl,rfl,Oe g w s⟩
section
variable {P:Program}{o:Oper}{a:Act}{g:Gh}{w:q8}{H:sF}{T:sW}(hT:xU P T) (hH:sK g w H)
include hT hH
theorem a5R {t t':TypeId}{x:Operand}(ho:o.op= .convert t t' x) {sx:qK}(j:rS g w sx (a.eval x)) {e:qY}
  (hr:B6 (cg T (rY T t) (rY T t') sx)=some e):rN P o a g w H e:=by
 obtain⟨q,hq,rfl⟩:=JV hr;replace j:=j.1;generalize F:rY T t=o1 at hq;generalize E:rY T t'=o2 at hq;unfold cg at hq;split at hq
 .rename_i e b1 a1 l1 e2 b2 a2 l2 l k;generalize h3:rY T e=o3 at hq;unfold Jh at hq;split at hq
  .cases hq;have d1:=(t7 hT F).2;have d2:=(t7 hT E).2;have d3:=(t7 hT h3).2;simp only[xT] at d1 d2 d3;obtain⟨ad,cap,z,G,hl⟩:=ER j;refine rN.pure hH (v:= .string ⟨(tG l).toArray⟩) ?_ (CZ _ _ _);simp only[execOp,ho,z,aFM];have run:(convert t t' (.slice ad (List.length l) cap)).run P w= .ok (.string ⟨(tG l).toArray⟩) w:=by
    rcases hl with rfl|⟨b,off,rfl,D⟩
    .rw[run_convert_bytes_string w t t' e ad _ cap d1.1 d3 d2];cases ad with
     |none=>simp [Conv.bytesToString,tG];rfl
     |some ad=>simp [Conv.bytesToString,loadCells,loadCellsFrom,tG];rfl
    have:=run_convert_bytes_arg (P:=P) w t e d1.1 d3 b off (List.length l) cap l rfl (fun i hi=>by
     obtain⟨cs,_,c2,_,c4⟩:=MJ D (aFG hi);have c5:cs=[.int .u8 (l[i]:Int)]:=c4;subst c5;have:=c2 0 _ rfl;have h:Ty.cells (.int .u8)=1:=rfl;rw[h,aHj,aGK] at this;rw[this,aFV,aFG hi];rfl) t' d2
    exact this
   rw[run];rfl
  cases hq
 cases hq
theorem a5S {args:Array Operand}{tys:Array TypeId}(ho:o.op= .call ⟨.builtin .append,args,tys⟩) {ρ:Operand->qK}(hρ: ∀x∈args.toList,rS g w (ρ x) (a.eval x)) {e:qY}
  (hr:W9 T H (vY ρ args.toList) tys.toList=some e) (hs: ∀p∈e.side,p):rN P o a g w H e:=by
 unfold W9 at hr;split at hr
 .rename_i t u hn;have K:tys= #[t,u]:=by apply aGL.1;rw[hn]
  split at hr
  .rename_i e1;subst e1;exact a5b hT hH ho hρ K hr hs
  clear hn;subst K;generalize hst:rY T t=ot at hr;generalize hG:rY T u=ou at hr;generalize hI:vY ρ args.toList=ss at hr;unfold eq at hr;split at hr
  .rename_i el ar ls_ e2 b2 a2 ls2 l k s k2;generalize hk:qO H k=ob at hr;unfold W8 at hr;split at hr
   .rename_i e' c n;split at hr
    .rename_i hN;obtain⟨rfl,rfl⟩:=hN;cases hr;rw[aFD];have G:List.length (uQ s)=List.length s:=by simp [uQ]
     rw[G];have z:=hs _ (by simp:(List.length l=n)∈_);have hS:=hs _ (by simp:(List.length l+List.length s<=140737488355328)∈_);obtain⟨v,vr,hv,V,hJ⟩:=WW hT hH hρ hI;obtain⟨R,h3,_⟩:=(t7 hT hst).2;have hu:=(t7 hT hG).2;simp only[xT] at hu;obtain⟨ei,hA,hz⟩:=aFQ.1 h3;simp only[aF3] at hz;obtain⟨cs,hx⟩:=HU (a:=a) hT hH ho;obtain⟨v0,xs,hh,D,ha,Z⟩:=hH.blk k _ hk;have O:g.cur k (List.length l)=some v:=V.2;rw[z,hh] at O;obtain rfl:=aFE O;obtain⟨adl,capl,U,hD,hL⟩:=ER V.1;have he:=wX hJ.1;have I:(⟨List.toArray s⟩:ByteArray).size=List.length s:=by simp [ByteArray.size]
     by_cases hm:List.length s=0
     .obtain rfl:s=[]:=aF4 hm;have E: ∀i,qO (r7 [(k,qJ.grow e' 1 (List.length l+List.length ([]:pL)))] H) i=qO H i:=by
       intro i;simp only[r7,qO];by_cases hi:k=i
       .subst hi;rw[aFz rfl,hk,z];rfl
       rw[aFA hi]
      have hc:rR g w H ⟨[List.length l=n,List.length l+List.length ([]:pL)<=140737488355328],(.val (.list (.int .u8)) (l++uQ []),some k),[(k,.grow e' 1 (List.length l+List.length ([]:pL)))],[k]⟩ g w v0:=by
       refine⟨.refl _ _,?_,⟨fun i b h=>hH.blk i b ((E i).symm.trans h),fun i j bi bj b o' hM h1 R=>hH.dis i j bi bj b o' hM ((E i).symm.trans h1) ((E j).symm.trans R),hH.sl,hH.tab.1,fun i blk b o' h X=>hH.tab.2 i blk b o' ((E i).symm.trans h) X⟩,.refl _ _ _,fun i blk b o' hi hg X=> .inr ⟨i,blk,hi,(E i).symm.trans hg,X⟩,fun _ _=>⟨rfl,rfl⟩,fun i u' y us h=> .inl ⟨y,us,(E i).symm.trans h⟩⟩;rw[show l++uQ []=l from by simp [uQ]];exact V
      refine rN.value (v:=v0) (w':=w) ?_ hc;rw[hx,hv,he,U];have:=a5Q (P:=P) w t u o.type e' ei R hu hA (by rw[hz.1];rfl) adl (List.length l) capl hD;simp only[builtin,aFM];rw[this];simp only[aFH,aF0]
     have hE:uD (Rd g w (.int .u8)) 1 l xs:=by
      by_cases h0:List.length l=0
      .obtain rfl:l=[]:=aF4 h0;have:xs=[]:=aF4 (by rw[D.1,<-z];simp);exact this
      rcases hL with rfl|⟨b0,off0,rfl,hR⟩
      .exact absurd rfl h0
      obtain⟨ls,hB,hC,_⟩:=RS hR;rcases D.2 with⟨e1,e2⟩ |⟨q,cap,cur,e1,e2⟩
      .exact absurd (z.trans e2) h0
      rw[U] at e1;simp only[aHg,aFy,Addr.mk.injEq] at e1;obtain⟨⟨rfl,rfl,_⟩,_,rfl⟩:=e1;have hF:v0= .slice (some ⟨b0,0,none⟩) n capl:=by rw[U,z]
      have hK:=gv (hF▸D);have:ls=xs:=by
       have Y:=MD hB;have ht:=D.1;have hQ:Ty.cells (.int .u8)=1:=rfl;rw[hQ] at Y;apply List.ext_getElem?;intro j;by_cases hj:j<ls.length
       .have h1:=hC j ls[j] (aFG hj);have hy:j<xs.length:=by rw[ht,<-z,<-Y];exact hj
        have R:=hK j xs[j] (aFG hy);rw[h1] at R;rw[aFG hj,aFG hy,aFE R]
       rw[aG1 pP,aG1 (by rw[ht,<-z,<-Y];omega)]
      rw[<-this];exact hB
     obtain⟨q,cap,w',M,F,hq,hg,Q,hd⟩:=a5P (P:=P) w t u o.type e' ei R hu hA hz.2.2 hz.1 hz.2.1 v0 n xs D ⟨List.toArray s⟩ (by rw[I];omega) (by rw[I];unfold maxLen;omega) (by rw[I];omega);rw[I] at M F Q;rw[a5O] at F;refine rN.value (v:= .slice (some ⟨q,0,none⟩) (n+List.length s) cap) (w':=w') ?_ (by
      have:=rR.append (side:=[List.length l=n,List.length l+List.length s<=140737488355328]) (rds:=[k]) (u:= .int .u8) (r:=uQ s) hH hk (show (1:Nat)=Ty.cells (.int .u8) from rfl) z hh D ha Z hE (Oe g w s) (by rw[G];omega) (by rw[G];exact F) hq hg (by rw[G];exact Q) hd;rw[G] at this;rw[z];rw[z] at this;exact this)
     rw[hx,hv,he];simp only[builtin,aFM,M,aFH,aF0]
    cases hr
   cases hr
  cases hr
 cases hr
end
theorem a5T {g g':Gh}{w:q8}{f:qK→qK}(hf: ∀s u,rS g w s u→rS g' w (f s) u): ∀{l:List qK}{v:q9}{s:qK},RV g w l v→OO (l.map f)=some s→rS g' w s v:=by
  have un: ∀{l:List qK}{vs:pW}{q},vG g w l vs→HF (l.map f)=some q→JT g' w q vs:=by
    intro l
    induction l with
    | nil=>
      intro vs q h hq;simp only[List.map_nil,HF,aFy] at hq;subst hq;exact h
    | cons s l ih=>
      rintro vs q ⟨v,vs',rfl,F,E⟩ hq;have j:=hf s v F;simp only[aGB] at hq;generalize f s=fs at hq j;obtain⟨d,k⟩:=fs;cases d with
      | val t x=>
        simp only[HF] at hq;obtain⟨q',D,rfl⟩:=aFQ.1 hq;refine⟨v,vs',rfl,j.1,?_,ih E D⟩;cases k with
        |none=>trivial
        |some k=>exact j.2
      | own k' n=>
        simp only[HF] at hq;obtain⟨q',D,rfl⟩:=aFQ.1 hq;exact⟨v,vs',rfl,.inr ⟨rfl,v,j.1.1,rfl,j.1.2⟩,trivial,ih E D⟩
      |_=>simp [HF] at hq
  intro l v s h z
  match l,h,z with
  | [],⟨vs,e,h⟩,z=>
    simp only[List.map_nil,OO,aFy] at z;subst z;rw[show vs=[] from h] at e;exact⟨⟨[],e,rfl⟩,trivial⟩
  | [x],h,z=>
    simp only[aGB,List.map_nil,OO,aFy] at z;subst z;exact hf x v h
  | x::y::l,⟨vs,e,h⟩,z=>
    simp only[aGB,OO,aFy] at z;subst z;cases hq:HF (f x::f y::l.map f) with
    |none=>exact⟨trivial,trivial⟩
    |some q=>exact⟨⟨vs,e,un (l:=x::y::l) h (by simpa using hq)⟩,trivial⟩
theorem Of {base n:Nat}{W:List rT}: ∀l:List qK,QY base n W l=l.map (V4 base n W)
  |[]=>rfl
  |s::l=>by simp [QY,Of l]
theorem Og {P:Program}{f:FuncId}{sg:rH}(O:xF P f sg.C) {g:Gh}{w:q8}{H:sF}(hH:sK g w H) {args:List qK}{vals:pW}(I:vG g w args vals) {base:Nat}{e:qY}
    (hr:HG H base args (some sg)=some e) (U: ∀p∈e.side,p) (M:yJ g base e):Calls P f vals.toArray w (fun en w'=> ∃v g',en= .returned v∧rR g w H e g' w' v):=by
  simp only[HG] at hr;cases F:yE H sg.ps args (some ⟨[],[],[],0⟩) with
  |none=>rw[F] at hr;cases R:sg.gs<;>(rw[R] at hr;simp [QZ,C1] at hr)
  |some q0=>
   rw[F] at hr;cases hp:C1 H sg.gs (some q0) with
   |none=>rw[hp] at hr;simp [QZ] at hr
   |some q=>
    rw[hp] at hr;simp only[QZ,Nu,List.append_nil] at hr;have E:=Np hH (CD.nil g w H) I F;rw[List.nil_append] at E;have K:=Nr hH E hp;cases G:JI q.ws.reverse q.H.reverse with
    |none=>rw[G] at hr;simp [V7] at hr
    |some L=>
    rw[G] at hr;simp only[V7] at hr;have hm:=K.m.ren G;cases Q:sg.C q.args.reverse L with
    |none=>rw[Q] at hr;simp [V6] at hr
    | some r=>
      rw[Q] at hr;simp only[V6,Nt] at hr;cases D:C3 base r.H.length q.ws.reverse 0 q.ws.reverse r.H with
      |none=>rw[D] at hr;simp [QX] at hr
      | some upd=>
        rw[D] at hr;cases z:OO (QY base r.H.length q.ws.reverse r.ret) with
        |none=>rw[z] at hr;simp [QX] at hr
        | some s=>
          rw[z] at hr;simp only[QX,aFy] at hr;subst hr;refine(O.2 (vI g q.ws.reverse) w q.args.reverse _ L r (a5t hH hm) K.args Q U).mono ?_;rintro en w' ⟨v,g',rfl,j⟩;refine⟨v,_,rfl,a5J hH hm j D M ?_⟩;rw[Of] at z;exact a5T (fun s u h=>a5H hH hm j D M h) j.ret z
theorem MP {g g':Gh}{w w':q8}: ∀{t:Ty}{x:t.den}{cs:pW},HH t=true→Rd g w t x cs→Rd g' w' t x cs
  | .bool,_,_,_,r=>r
  | .int _,_,_,_,r=>r
  | .str,_,_,_,r=>r
  | .unit,_,_,_,r=>r
  | .fn,_,_,_,r=>r
  | .pair a b,_,_,h,⟨c1,c2,e,r1,r2⟩=>by
    simp only[HH,aFL] at h;exact⟨c1,c2,e,MP h.1 r1,MP h.2 r2⟩
  | .list _,_,_,h,_=>by cases h
  | .ref,_,_,h,_=>by cases h
  | .clo,_,_,h,_=>by cases h
  | .mp,_,_,h,_=>by cases h
  | .rl _ _,_,_,h,_=>by cases h
  | .mref,_,_,h,_=>by cases h
  | .ap,_,_,h,_=>by cases h
theorem Oh {g g':Gh}{w:q8}{k n:Nat}{t:Ty}{l:List t.den}(le:Le g w g' w) (E: ∀u,g.cur k n=some u→((u= .slice none 0 0∧n=0)∨∃b cap,u= .slice (some ⟨b,0,none⟩) n cap∧n≤cap)→tD g' w (.list t) l u):
    ∀{args:List qK}{vals:pW},vG g w args vals→(∀p∈LT k n args,p)→vG g' w (R1 k t l args) vals
  |[],_,h,_=>h
  | s::ss,_,⟨v,vs,rfl,D,F⟩,hp=>by
    refine⟨v,vs,rfl,?_,Oh le E F (fun p z=>hp p ?_)⟩
    · obtain⟨d,x⟩:=s
      cases d with
      | own j m=>
        simp only[Js];split
        · rename_i e
          subst e;have hm:m=n:=hp (j=j→m=n) (by simp only[LT];exact aFT) rfl;subst hm;exact⟨E _ D.1.1 D.1.2,trivial⟩
        .exact DX le D
      |_=>exact DX le D
    obtain⟨d,x⟩:=s
    cases d with
    |own j m=>simp only[LT];exact aFK _ z
    |_=>exact z
theorem Oi {g g':Gh}{w w':q8}: ∀{l:List ((Σ t:Ty,t.den)×pY)}{vs:pW},V8 l=true→JT g w l vs→JT g' w' (ck l) vs
  |[],_,_,h=>h
  | (⟨t,x⟩,k)::l,vs,j,⟨v,vs',e,z,D,h3⟩=>by
    simp only[V8,aFL] at j;exact⟨v,vs',e,z.imp (fun⟨a,cs,e,q⟩=>⟨a,cs,e,MP j.1 q⟩) (fun⟨a,q⟩=>⟨a,MP j.1 q⟩),trivial,Oi j.2 h3⟩
theorem a5U {g g':Gh}{w w':q8}{s s':qK}{v:q9}(h:V9 s=some s') (hr:rS g w s v):rS g' w' s' v:=by
  unfold V9 at h;split at h
  · split at h
    · rename_i j
      cases h;exact⟨hr.1.imp (fun⟨a,cs,e,q⟩=>⟨a,cs,e,MP j q⟩) (fun⟨a,q⟩=>⟨a,MP j q⟩),trivial⟩
    cases h
  · split at h
    · rename_i j
      cases h;obtain⟨vs,e,q⟩:=hr.1;exact⟨⟨vs,e,Oi j q⟩,trivial⟩
    cases h
  cases h
theorem a5V {P:Program}{f:FuncId}{sg:rH}(hD:xF P f sg.C) {g:Gh}{w:q8}{H:sF}(hH:sK g w H) {args:List qK}{vals:pW}(ht:vG g w args vals) {base:Nat}{e:qY}{k:Nat}
    (hr:R2 H base args sg k (qO H k)=some e) (hs: ∀p∈e.side,p) (hQ:yJ g base e):Calls P f vals.toArray w (fun en w'=> ∃v g',en= .returned v∧rR g w H e g' w' v):=by
  cases hk:qO H k with
  |none=>rw[hk] at hr;cases hr
  | some b=>
    rw[hk] at hr;cases b with
    | row e0 t l m=>
      simp only[R2] at hr;cases hi:HG ((k,.dead)::H) base (R1 k t l args) (some sg) with
      |none=>rw[hi] at hr;cases hr
      | some e1=>
        rw[hi] at hr;obtain⟨side,s0,U,rds⟩:=e1;simp only[co] at hr;cases ha:V9 s0 with
        |none=>rw[ha] at hr;cases hr
        | some s1=>
          rw[ha] at hr;simp only[cn] at hr;split at hr
          · rename_i hy
            simp only[aFL,aF2] at hy;obtain⟨Z,hA⟩:=hy;have hC:k∉qQ U:=fun h=>by rw[HW.2 h] at hA;cases hA
            cases hr;obtain⟨hl,v,xs,hv,V,hF,hW,hV⟩:=hH.blk k _ hk
            let g':Gh:={g with S:=fun b o=>g.S b o∨(v.ownBlock=some b∧o<m*t.cells)}
            have le:Le g w g' w:=⟨fun _ _ h=> .inl h,fun _ _ _=>rfl,fun _ _ h=>h,fun _ _ _ h=>h⟩;have hh: ∀b,v.ownBlock=some b→∀o,sH g k (.row e0 t l m) b o:=fun b hb o=>⟨v,hv,hb⟩
            have hn: ∀u,g.cur k m=some u→((u= .slice none 0 0∧m=0)∨∃b cap,u= .slice (some ⟨b,0,none⟩) m cap∧m≤cap)→tD g' w (.list t) l u:=by
              intro u hu Q;rw[hv] at hu;obtain rfl:=aFE hu;rcases Q with⟨rfl,h0⟩ |⟨b,cap,rfl,hG⟩
              · have:l=[]:=aF4 (by rw[hl,h0])
                subst this;exact .inr ⟨rfl,none,0,rfl,aFW _,.inl rfl⟩
              refine .inr ⟨rfl,some ⟨b,0,none⟩,cap,by rw[hl],by rw[hl];exact hG,.inr ⟨b,0,rfl,JW (CX (fun _ _ h=>wT le h) hF) (fun j u hu=>?_) (fun j hj=>?_)⟩⟩
              · have:=V.cells (g:=b) rfl j u hu
                rwa [aGP] at this
              right
              exact⟨rfl,by rw[hl] at hj;omega⟩
            have E: ∀i b,qO ((k,qJ.dead)::H) i=some b→(i=k∧b= .dead)∨(i≠k∧qO H i=some b):=by
              intro i b hb;simp only[qO] at hb;split at hb
              .rename_i e1;exact .inl ⟨e1.symm,(aFE hb).symm⟩
              rename_i e1;exact .inr ⟨Ne.symm e1,hb⟩
            have hR:sK g' w ((k,qJ.dead)::H):=by
              refine⟨fun i b hb=>?_,fun i j bi bj b o hd O h2 o1 o2=>?_,fun b o F=>?_,hH.tab.1,fun i b bb oo hb ho=>?_⟩
              · rcases E i b hb with⟨rfl,rfl⟩ |⟨I,O⟩
                .trivial
                exact JU (hH.blk i b O) le rfl rfl (fun _ _ _=>⟨rfl,rfl⟩) (fun _ _=>rfl) (fun bb o ho F=>by
                   rcases F with F|F
                   .exact F
                   exact absurd (hh bb F.1 o) (fun h5=>hH.dis i k b _ bb o I O hk ho h5)) (fun _ _ _ _ h=>h)
              · rcases E i bi O with⟨_,rfl⟩ |⟨_,O⟩
                .exact o1.elim
                rcases E j bj h2 with⟨_,rfl⟩ |⟨_,h2⟩
                .exact o2.elim
                exact hH.dis i j bi bj b o hd O h2 ((xS (g':=g') (g:=g) rfl rfl).1 o1) ((xS (g':=g') (g:=g) rfl rfl).1 o2)
              · rcases F with F|F
                .exact hH.sl b o F
                exact ME V F.1
              rcases E i b hb with⟨_,rfl⟩ |⟨_,O⟩
              .exact ho.elim
              exact hH.tab.2 i b bb oo O ((xS (g':=g') (g:=g) rfl rfl).1 ho)
            have hx: ∀p,p∈LT k m args∨p∈side→p:=fun p hp=>hs p (HT.2 hp)
            have M: ∀i,i≠k→qO ((k,qJ.dead)::H) i=qO H i:=fun i hi=>by
              simp only[qO];rw[aFA (Ne.symm hi)]
            have hB: ∀{i},i∈qQ U→i≠k:=fun h e=>hC (e▸h)
            have G: ∀{i blk},i∈qQ U→qO (r7 U H) i=some blk→qO (r7 U ((k,qJ.dead)::H)) i=some blk:=by
              intro i blk hi h
              have: ∀{U:List (Nat×qJ)},i∈qQ U→qO (r7 U ((k,qJ.dead)::H)) i=qO (r7 U H) i:=by
                intro U
                induction U with
                |nil=>intro h;cases h
                | cons q U ih=>
                  intro h;obtain⟨j,b⟩:=q;simp only[r7,qO];split
                  .rfl
                  rename_i I
                  simp only[qQ,aFN] at h;exact ih (h.resolve_left (fun e=>I e.symm))
              rw[this hi];exact h
            have R: ∀{i blk},i∈qQ U→qO (r7 U H) i=some blk→∃t y,blk= .cells t y []∧HH t=true:=by
              intro i blk hi h
              have: ∀{U:List (Nat×qJ)},OP U=true→i∈qQ U→qO (r7 U H) i=some blk→∃t y,blk= .cells t y []∧HH t=true:=by
                intro U
                induction U with
                |nil=>intro _ h;cases h
                | cons q U ih=>
                  intro Z hi h;obtain⟨j,b⟩:=q;cases b with
                  | cells t y ts=>
                    cases ts with
                    |cons _ _=>simp [OP] at Z
                    | nil=>
                      simp only[OP,aFL] at Z;simp only[r7,qO] at h;split at h
                      · obtain rfl:=aFE h
                        exact⟨t,y,rfl,Z.1⟩
                      · rename_i I
                        simp only[qQ,aFN] at hi;exact ih Z.2 (hi.resolve_left (fun e=>I e.symm)) h
                  |_=>simp [OP] at Z
              exact this Z hi h
            have z: ∀b o,sY g' ((k,qJ.dead)::H) (qQ U) b o→sY g H (qQ U) b o:=fun b o ⟨i,blk,hi,O,h2⟩=>⟨i,blk,hi,(M i (hB hi)).symm.trans O,(xS (g':=g') (g:=g) rfl rfl).1 h2⟩;refine(Og hD hR (Oh le hn ht (fun p hp=>hx p (.inl hp))) hi (fun p hp=>hx p (.inr hp)) (fun i hL hb=>hQ i hL hb)).mono ?_;rintro en w' ⟨v1,g1,rfl,D⟩
            let g2:Gh:={g1 with S:=g.S}
            have hz:Le g w g2 w':=⟨fun _ _ h=>h,fun b o h=>D.le.cell b o (.inl h),fun i p h=>D.le.J i p h,fun i n u h=>D.le.cur i n u h⟩
            have Y:Fr (sY g H (qQ U)) w w' g.S g2.S:=
              ⟨D.fr.os,D.fr.tape,D.fr.output,D.fr.size,fun b hb hc=>D.fr.blk b hb (fun o h=>hc o (z b o h)),fun b o hb hc=>D.fr.cell b o hb (fun h=>hc (z b o h)),fun _ _ h=> .inl h,fun b s h=>(D.fr.shape b s h).imp id fun h o=>z b o (h o)⟩
            have X: ∀i,i∉qQ U→g2.J i=g.J i∧g2.cur i=g.cur i:=fun i hi=>D.gho i hi
            have K: ∀i blk b o,i∈qQ U→qO (r7 U H) i=some blk→sH g2 i blk b o→w.heap.size≤b∨sY g H (qQ U) b o:=fun i blk b o hi hg ho=>
              (D.perm i blk b o hi (G hi hg) ((xS (g':=g2) (g:=g1) rfl rfl).1 ho)).imp id (z b o)
            refine⟨v1,g2,rfl,hz,?_,hH.upd hz Y K X (fun i blk hi hg=>?_) (fun i j bi bj b o hi hj hd hN hM hJ hI=>?_) (fun b o h=>aF9 (hH.sl b o h) D.fr.size),Y,K,X,fun i u y us h=>?_⟩
            .exact a5U ha D.slot
            · obtain⟨t2,y2,rfl,hK⟩:=R hi hg
              obtain⟨p,cs,q1,q2,q3,q4,q5,_⟩:=D.heap.blk i _ (G hi hg);exact⟨p,cs,q1,MP hK q2,q3,q4,fun j hj F=>q5 j hj (D.le.S _ _ (.inl F)),fun _ _ hm=>by cases hm⟩
            .exact D.heap.dis i j bi bj b o hd (G hi hN) (G hj hM) ((xS (g':=g2) (g:=g1) rfl rfl).1 hJ) ((xS (g':=g2) (g:=g1) rfl rfl).1 hI)
            by_cases he:i∈qQ U
            · rcases D.ty i u y us (G he h) with⟨x',ts',q⟩ |q
              .exact .inl ⟨x',ts',(M i (hB he)).symm.trans q⟩
              exact .inr q
            exact .inl ⟨y,us,(AU he).symm.trans h⟩
          .cases hr
    |_=>cases hr
theorem a5W {P:Program}{f:FuncId}{F:(t:Ty)→List t.den→Option (List t.den)}(hF:X4 P f F) {g:Gh}{w:q8}{H:sF}(hH:sK g w H) {args:List qK}{vals:pW}(E:vG g w args vals) {e:qY}
    (hr:VA H F args=some e) (U: ∀p∈e.side,p):Calls P f vals.toArray w (fun en w'=> ∃v g',en= .returned v∧rR g w H e g' w' v):=by
  unfold VA at hr;split at hr
  · rename_i k n x
    obtain⟨v,vs,rfl,Z,Y⟩:=E;rw[show vs=[] from Y];cases I:qO H k with
    |none=>rw[I] at hr;cases hr
    | some b=>
      rw[I] at hr;cases b with
      | row e0 t l m=>
        simp only[cp] at hr;cases hf:F t l with
        |none=>rw[hf] at hr;cases hr
        | some l'=>
          rw[hf] at hr;cases hr;have K:n=m:=U _ aFT;subst K;obtain⟨hl,v0,xs,z,G,Q,D,h⟩:=hH.blk k _ I;have X:=Z.1.1;rw[z] at X;obtain rfl:=aFE X;refine(hF g w e0 t l l' v0 n xs hH.tab.1 G Q hl (U _ pR) hf).mono ?_;rintro en w' ⟨rfl,O,xs',k1,k2,k3⟩;have j: ∀b,v0.ownBlock=some b→∀o,sY g H [k] b o:=fun b hb o=>⟨k,_,by simp,I,v0,z,hb⟩;refine⟨_,_,rfl,rR.row (v:=v0) (xs:=xs') hH O k1 k2 D (fun u R=>by rw[z] at R;exact(aFE R).symm) (.inr ⟨v0.ownBlock,k3,j⟩) (fun b o V=>?_) h (fun b hb=> .inr (j b hb)) ⟨⟨[],rfl,rfl⟩,trivial⟩⟩;have M:v0.ownBlock≠some b:=fun e=>h b e o V;exact aFY (a:=⟨b,o,none⟩) (k3.block b (hH.sl b o V) (fun e=>M e.symm))
      |_=>cases hr
  cases hr
section
variable {P:Program}{o:Oper}{a:Act}{g:Gh}{w:q8}{H:sF}{T:sW}{Γ:tH}(hT:xU P T) (hΓ:ET P Γ) (hH:sK g w H)
include hT hΓ hH
theorem Oj {f:FuncId}{args:List qK}{vals:pW}(j:vG g w args vals) {base:Nat}{e:qY}(hr:LZ H base args (JL Γ f)=some e) (I: ∀p∈e.side,p) (E:yJ g base e):
    (∀args w,(callFunc f args).run P w= .ok (.enter f args) w)∧Calls P f vals.toArray w (fun en w'=> ∃v g',en= .returned v∧rR g w H e g' w' v):=by
  cases D:JL Γ f with
  |none=>rw[D] at hr;cases hr
  | some sg=>
    rw[D] at hr
    obtain⟨M,D⟩:f<1000000000∧Γ f=some sg:=by
      unfold JL at D;split at D
      .rename_i h;exact⟨h,D⟩
      cases D
    obtain⟨z,G⟩:=hΓ f sg M D;refine⟨z.1,?_⟩;simp only[LZ] at hr;cases K:sg.row with
    | some F=>
      rw[K] at hr;exact a5W (G F K) hH j hr I
    | none=>
      rw[K] at hr;simp only[W6] at hr;cases O:R0 sg.ps args with
      | some k=>
        rw[O] at hr;exact a5V z hH j hr I E
      | none=>
        rw[O] at hr;exact Og z hH j hr I E
theorem Ok {fop:Operand}{args:Array Operand}{tys:Array TypeId}(ho:o.op= .call ⟨.value fop,args,tys⟩) {ρ:Operand→qK}(hf:rS g w (ρ fop) (a.eval fop)) (hρ: ∀x∈args.toList,rS g w (ρ x) (a.eval x)) {base:Nat}{e:qY}
    (hr:M0 Γ H base (C8 T ρ args.toList tys.toList) (ρ fop)=some e) (U: ∀p∈e.side,p) (D:yJ g base e) (E:args.size=tys.size):rN P o a g w H e:=by
  have h:=X6 (a:=a) (ρ:=ρ) hT hΓ hH (xs:=args.toList) (ts:=tys.toList) (by simpa using E) hρ;unfold M0 at hr;split at hr
  · rename_i f caps k heq
    rw[heq] at hf
    obtain⟨vs,R,j⟩: ∃vs,yZ g caps vs∧a.eval fop= .func (.func f) #[] vs.toArray:=by
      rcases hf.1 with⟨O,_⟩ |⟨_,vs,M,h3⟩
      .cases O
      simp only[aGm,and_true] at h3
      exact⟨vs,M,h3⟩
    obtain⟨z,F⟩:=Oj hT hΓ hH (a5m hT hΓ hH h (Nb hT hΓ hH R)) hr U D;intro K Q G;refine X7 ho j z (F.mono ?_);rintro en w' ⟨v,g',rfl,I⟩;exact⟨v,rfl,G _ w' v I.w⟩
  · rename_i f k heq
    rw[heq] at hf
    have j:a.eval fop= .func (.func f) #[] ([]:pW).toArray:=by
      rcases hf.1 with⟨O,_⟩ |⟨_,M⟩
      .cases O
      simpa[Rd,WQ] using M
    obtain⟨z,F⟩:=Oj hT hΓ hH h hr U D;intro K Q G;refine X7 ho j z ?_;rw[List.append_nil];refine F.mono ?_;rintro en w' ⟨v,g',rfl,I⟩;exact⟨v,rfl,G _ w' v I.w⟩
  cases hr
theorem a5X {fop:Operand}{args:Array Operand}{tys:Array TypeId}(ho:o.op= .call ⟨.value fop,args,tys⟩) {ρ:Operand→qK}(hf:a.eval fop= .func (.func JE) #[] #[]) (hρ: ∀x∈args.toList,rS g w (ρ x) (a.eval x)) {e:qY}
    (hr:et (C8 T ρ args.toList tys.toList) (rY T LL)=some e) (O:args.size=tys.size):rN P o a g w H e:=by
  have D:=X6 (a:=a) (ρ:=ρ) hT hΓ hH (xs:=args.toList) (ts:=tys.toList) (by simpa using O) hρ;have ha:a.eval fop= .func (.func JE) #[] ([]:pW).toArray:=hf
  have go: ∀{s:qK}{el by':Nat}{ar:Bool}{ls:List (Nat×TypeId×Nat)},C8 T ρ args.toList tys.toList=[s]→rY T LL=some ⟨.ap,el,by',ar,ls⟩→(∀v,rS g w s v→∀g' w',Le g w g' w'→zJ g' w' s.1 v)→(∀v,rS g w s v→∃p,v= .pointer p)→rN P o a g w H ⟨[],(.apd s.1,none),[],[]⟩:=by
    intro s el by' ar ls I G h3 h4;rw[I] at D;obtain⟨v,vs,hv,E,V⟩:=D;rw[show vs=[] from V] at hv;obtain⟨pp,rfl⟩:=h4 v E;obtain⟨_,Y,hd,_,_⟩:=(t7 hT G).2;intro K Q hK;refine X7 ho ha hd ?_;rw[List.append_nil,hv];refine(Y w pp).mono ?_;rintro en w' ⟨b,rfl,hb,he,hc,R⟩;have e1:=rR.below hH R
    let g':Gh:={g with S:=fun q oo=>g.S q oo∨(q=b∧oo=0)}
    have le:Le g w' g' w':=⟨fun _ _ h=> .inl h,fun _ _ _=>rfl,fun _ _ h=>h,fun _ _ _ h=>h⟩
    have X: ∀i blk,qO H i=some blk→∀oo,¬sH g i blk b oo:=fun i blk I oo G=>by
      have:=MF (hH.blk i blk I) G;omega
    have hh:sK g' w' H:=by
      have h4:sK g w' H:=e1.heap;refine⟨fun i blk U=>JU (h4.blk i blk U) le rfl rfl (fun _ _ _=>⟨rfl,rfl⟩) (fun _ _=>rfl) (fun q oo ho z=>?_) (fun _ _ _ _ h=>h),fun i j bi bj q oo Z h5 h6 o1 o2=>h4.dis i j bi bj q oo Z h5 h6 ((xS (g':=g') (g:=g) rfl rfl).1 o1) ((xS (g':=g') (g:=g) rfl rfl).1 o2),fun q oo z=>?_,h4.tab.1,fun i blk q oo U ho=>h4.tab.2 i blk q oo U ((xS (g':=g') (g:=g) rfl rfl).1 ho)⟩
      · rcases z with z|⟨rfl,_⟩
        .exact z
        exact absurd ho (X i blk U oo)
      rcases z with z|⟨rfl,_⟩
      .exact h4.sl q oo z
      exact he
    have F:Le g w g' w':=e1.le.trans le;refine⟨_,rfl,hK g' w' _ (rR.w ⟨F,⟨⟨b,.pointer pp,rfl,.inr ⟨rfl,rfl⟩,hc,h3 _ E g' w' F⟩,trivial⟩,hh,⟨e1.fr.os,e1.fr.tape,e1.fr.output,e1.fr.size,e1.fr.blk,e1.fr.cell,fun q oo z=>?_,e1.fr.shape⟩,fun _ _ _ _ hi=>(by cases hi),fun _ _=>⟨rfl,rfl⟩,fun _ _ y us h=> .inl ⟨y,us,h⟩⟩)⟩;rcases z with z|⟨rfl,_⟩
    .exact .inl z
    exact .inr (.inl hb)
  unfold et at hr;split at hr
  · rename_i p k el by' ar ls I G
    cases hr
    exact go I G (fun v E g' w' M=>RL M E.1) (fun v E=>by
      rcases E.1 with⟨h,_⟩ |⟨_,q,_,h⟩
      .cases h
      exact⟨_,(List.cons.inj h).1⟩)
  · rename_i k n c ix oo k2 el by' ar ls I G
    cases hr
    exact go I G (fun v E g' w' M=>RL M E.1) (fun v E=>by
      obtain⟨b,cap,_,_,_,h⟩:=E.1;exact⟨_,h⟩)
  cases hr
omit hT hΓ hH in
theorem jh {x:Nat×Nat}{o n:Nat}: ∀{ts:pU},x∈tK ts o n→x∈ts
  |[],h=>h
  | (q,k)::r,h=>by
    simp only[tK] at h;split at h
    .exact aFK _ (jh h)
    rcases aFN.1 h with h|h
    .rw[h];exact aFT
    exact aFK _ (jh h)
omit hT hΓ hH in
theorem a5Y {v:Ty}: ∀{t:Ty}{x:t.den}{o:Nat}{y:pL}{l:(Ty.list v).den},rE .str t x o=some y→rE (.list v) t x o=some l→False:=by
  intro t
  induction t with
  | pair a b iha ihb=>
    intro x o y l h g
    have key: ∀{w:Ty}(hw:w.isRow=false),rE w (.pair a b) x o=(if o<a.cells then rE w a x.1 o else rE w b x.2 (o-a.cells)):=by
      intro w hw;cases o with
      | zero=>
        conv=>lhs;unfold rE
        rw[aG3 (by intro e;subst e;cases hw),Nat.zero_sub]
      |succ o=>simp [rE]
    rw[key rfl] at h g;split at h
    · rename_i ho
      rw[aFz ho] at g;exact iha h g
    · rename_i ho
      rw[aFA ho] at g;exact ihb h g
  | str=>
    intro x o y l h g;cases o with
    | zero=>
      unfold rE at g;split at g
      .rename_i e;cases e
      .cases g
    |succ o=>simp [rE] at g
  | _=>
    intro x o y l h g;cases o with
    | zero=>
      unfold rE at h;split at h
      .rename_i e;cases e
      .cases h
    |succ o=>simp [rE] at h
omit hT hΓ in
theorem a5Z {i:Nat}{u:Ty}{x z:u.den}{y:pL}{toks0 toks:pU}{p:Pl}(hb:qO H i=some (.cells u x toks0)) (hp:g.J i=some p) (j: ∀x∈toks,x∈toks0) {o:Nat}(E:rE .str u x o=some y) (h:sQ .str y u x o=some z):
    rR g w H ⟨[],(.any,none),[(i,.cells u z toks)],[]⟩ g w undef:=by
  refine rR.reread hH hb hp j (fun cs F _=>?_) (fun v q l hl=>X0 hH h hl (fun⟨I,G⟩=>?_))
  · obtain⟨c1,c2,c3,rfl,rfl,D⟩:=CA F E
    have e2:c2=[.string ⟨y.toArray⟩]:=D;exact ic h (v:= .string ⟨y.toArray⟩) rfl F (by rw[e2];simp)
  have:q=o:=by simp only[Ty.cells] at G;omega
  subst this;exact a5Y E hl
omit hT hΓ in
theorem Ol {i:Nat}{u:Ty}{x z:u.den}{b:Bool}{y:pL}{ts:pU}{p:Pl}{o:Nat}(hb:qO H i=some (.cells u x ts)) (hp:g.J i=some p) (j:OT b y o (some x)=some z):
    rR g w H ⟨[],(.any,none),[(i,.cells u z (tK ts o 1))],[]⟩ g (if b=true then w.setCells p.1 (p.2+o) [.string ⟨y.toArray⟩] else w) undef:=by
  simp only[OT] at j;cases D:rE .str u x o with
  |none=>rw[D] at j;cases j
  | some y0=>
    rw[D] at j;simp only[Ko] at j;cases b with
    | true=>
      rw[aFz rfl];exact(rR.store (side:=[]) (rds:=[]) (k:=none) (v:= .string ⟨y.toArray⟩) hH hb hp (t:= .str) j (cy:=[.string ⟨y.toArray⟩]) rfl trivial (fun _ _ _=>rfl) (fun _=>rfl)).1
    | false=>
      rw[aFA pR];exact a5Z hH hb hp (fun _ h=>jh h) D j
omit hT hΓ in
theorem rR.again {k:Nat}{b:qJ}(j:qO H k=some b):rR g w H ⟨[],(.any,none),[(k,b)],[]⟩ g w undef:=by
  refine rR.more (U:=[]) (sd:=[]) (r:=[]) (rR.pure hH ⟨trivial,trivial⟩) (fun i=>?_) (fun _ h=>by cases h);simp only[r7,qO];split
  .rename_i e;subst e;exact j.symm
  rfl
omit hT hΓ in
theorem Om {i:Nat}{u:Ty}{x:u.den}{y:pL}{ts:pU}{p:Pl}{o:Nat}(hb:qO H i=some (.cells u x ts)) (hp:g.J i=some p) (F:rE .str u x o=some y):w.cell? ⟨p.1,p.2+o,none⟩=some (.string ⟨y.toArray⟩)∧w.frozen? ⟨p.1,p.2+o,none⟩=false:=by
  obtain⟨p',cs,h,E,z,j,_,_⟩:=hH.blk i _ hb;rw[hp] at h;obtain rfl:=aFE h;have hl:=sZ E;obtain⟨c1,c2,c3,rfl,rfl,D⟩:=CA E F;have e2:c2=[.string ⟨y.toArray⟩]:=D;subst e2;simp only[aFD,aGC] at hl;exact⟨z _ _ pR,(j.1 _ pP).2⟩
omit hT hΓ in
theorem On {k:Nat}{e:TypeId}{t:Ty}{l:List t.den}{m b cap j o':Nat}{x:t.den}{v:q9}(K:qO H k=some (.row e t l m)) (D:g.cur k m=some (.slice (some ⟨b,0,none⟩) m cap)) (G:l[j]? =some x) (I: ∀cs,Rd g w t x cs→cs[o']? =some v) (ho:o'<t.cells):
    w.cell? ⟨b,j*t.cells+o',none⟩=some v∧w.frozen? ⟨b,j*t.cells+o',none⟩=false:=by
  obtain⟨hl,v0,xs,z,h,O,_,_⟩:=hH.blk k _ K;rw[D] at z;obtain rfl:=aFE z;obtain⟨c1,c2,c3,e1,e2,e3,e4⟩:=WX O G
  have F:=h.cells (g:=b) rfl (j*t.cells+o') v (by
    rw[e1,aFO,aFJ pP,e2,aGo,aFU pP];exact I c2 e4)
  rw[aGP,aF6] at F;rcases h.2 with⟨E,_⟩ |⟨q,cap',cur,E,_,M,_⟩
  .cases E
  simp only[aHg,aFy,Addr.mk.injEq,and_true,true_and] at E;obtain⟨rfl,rfl⟩:=E;exact⟨F,frozen_of_row w b _ cur e M⟩
omit hT hΓ in
theorem a52 {k:Nat}{e:TypeId}{l:pM}{m:Nat}{b:Bool}{z:pL}(h:qO H k=some (.row e .str l m)) {bb cap:Nat}(j:b=true→g.cur k m=some (.slice (some ⟨bb,0,none⟩) m cap)∧0<m):
    ∃g',rR g w H ⟨[],(.any,none),[(k,.row e .str (G5 b z l) m)],[]⟩ g' (if b=true then w.setCells bb (m-1) [.string ⟨z.toArray⟩] else w) undef:=by
  cases b with
  | false=>
    rw[aFA pR];exact⟨g,rR.again hH h⟩
  | true=>
    obtain⟨D,E⟩:=j rfl;have hl:=(hH.blk k _ h).1;rw[aFz rfl];have:=rR.poke (o':=0) (uT:= .str) (y:=z) (z':=z) (i:=((m-1:Nat):Int)) (u:= .string ⟨z.toArray⟩) hH h D pP pP (by unfold sQ;rw[aHB rfl];rfl) rfl;refine⟨g.tok k m (.slice (some ⟨bb,0,none⟩) m cap),?_⟩
    have e1:G5 true z l=l.set (((m-1:Nat):Int)).toNat z:=by
      unfold G5;rw[aFz rfl,aGz,hl]
    have e2:(((m-1:Nat):Int)).toNat*(Ty.str).cells+0=m-1:=by simp [Ty.cells]
    rw[e1];rw[e2] at this;exact this
omit hT hΓ in
theorem a54 {k:Nat}{e:TypeId}{l:List (pL×pL×Unit)}{m:Nat}{b:Bool}{z:pL}(h:qO H k=some (.row e HL l m)) {bb cap:Nat}(D:b=true→g.cur k m=some (.slice (some ⟨bb,0,none⟩) m cap)∧0<m):
    ∃g',rR g w H ⟨[],(.any,none),[(k,.row e HL (G6 b z l) m)],[]⟩ g' (if b=true then w.setCells bb ((m-1)*2+1) [.string ⟨z.toArray⟩] else w) undef:=by
  cases b with
  | false=>
    rw[aFA pR];exact⟨g,rR.again hH h⟩
  | true=>
    obtain⟨E,F⟩:=D rfl;have hl:List.length l=m:=(hH.blk k _ h).1;rw[aFz rfl]
    have j:qR HL l (((m-1:Nat):Int))=l.getD (l.length-1) ([],[],()):=by
      unfold qR;rw[aGz,hl];rfl
    have:=rR.poke (t:=HL) (l:=l) (o':=1) (uT:= .str) (y:=z) (z':=((l.getD (l.length-1) ([],[],())).1,z,())) (i:=((m-1:Nat):Int)) (u:= .string ⟨z.toArray⟩) hH h E pP pP (by rw[j];rfl) rfl;refine⟨g.tok k m (.slice (some ⟨bb,0,none⟩) m cap),?_⟩
    have e1:G6 true z l=List.set l (((m-1:Nat):Int)).toNat ((l.getD (l.length-1) ([],[],())).1,z,()):=by
      unfold G6;rw[aFz rfl,aGz,hl]
    have e2:(((m-1:Nat):Int)).toNat*HL.cells+1=(m-1)*2+1:=by simp [Ty.cells]
    rw[e1];rw[e2] at this;exact this
theorem a56 {fop:Operand}{args:Array Operand}{tys:Array TypeId}(ho:o.op= .call ⟨.value fop,args,tys⟩) {ρ:Operand→qK}{x:Nat×Nat×(Nat×Nat)×(Nat×Nat)}(hf:tD g w .ap x (a.eval fop)) (hρ: ∀x∈args.toList,rS g w (ρ x) (a.eval x)) {e:qY}
    (hr:M4 Γ H x (C8 T ρ args.toList tys.toList) (rY T LL)=some e) (Z: ∀p∈e.side,p) (he:args.size=tys.size):rN P o a g w H e:=by
  have O:=X6 (a:=a) (ρ:=ρ) hT hΓ hH (xs:=args.toList) (ts:=tys.toList) (by simpa using he) hρ;generalize hY:C8 T ρ args.toList tys.toList=ss at hr O;generalize hst:rY T LL=ot at hr;unfold M4 at hr;split at hr
  case h_2=>cases hr
  rename_i c i k3 n3 k4 n4 s kk el by' ar ls;obtain⟨v0,vs',hv,hF,hB⟩:=O;rw[show vs'=[] from hB] at hv;have hD:=wX hF.1;obtain⟨_,_,_,hM,hQ⟩:=(t7 hT hst).2;generalize hi:qO H i=oi at hr;generalize E:ff i k3 k4=ne at hr;unfold WA at hr;split at hr
  case h_2=>cases hr
  rename_i u xo ts;generalize h3:qO H k3=o3 at hr;generalize h4:qO H k4=o4 at hr;unfold fe at hr;split at hr
  case h_2=>cases hr
  rename_i e3 l3 m3 e4 l4 m4;generalize R:JL Γ HE=osg at hr;generalize hn:rE .str u xo 6=oy1 at hr;generalize hk:rE .str u xo 7=oy2 at hr;cases osg with
  |none=>cases hr
  |some sg=>
  cases oy1 with
  |none=>cases hr
  |some y1=>
  cases oy2 with
  |none=>cases hr
  |some y2=>
  simp only[ez] at hr;generalize hy:M2 c y1 y2 (G4 l3) (JM l4)=y at hr;generalize hC:sg.C [(.val .str (y++s),none)] []=oC at hr;unfold ew at hr;split at hr
  case h_2=>cases hr
  rename_i sd ok;generalize hu:OT (ok&&decide (c=1)) (y++s) 6 (some xo)=ox1 at hr;cases ox1 with
  |none=>cases hr
  |some x1=>
  generalize ht:OT (ok&&decide (c=2)) (y++s) 7 (some x1)=ox2 at hr;cases ox2 with
  |none=>cases hr
  |some x2=>
  simp only[eu,aFy] at hr;subst hr;have hN:c≠0:=Z _ pR;have hI:n3=m3:=Z _ pR;have hG:n4=m4:=Z _ pR;have hJ:((y++s).length:Int)≤9223372036854775807:=Z _ pR;have hE: ∀p∈sd,p:=fun p hp=>Z p (by simp [hp]);subst hI hG
  obtain⟨I,G,U⟩:i≠k3∧i≠k4∧k3≠k4:=by
    unfold ff at E;split at E
    .cases E
    split at E
    .cases E
    split at E
    .cases E
    exact⟨by assumption,by assumption,by assumption⟩
  rcases xV rfl hf with⟨h,_⟩ |⟨_,b,α,e1,hS,Y,a1,a2,a3,a4⟩
  .exact absurd h hN
  simp only[aGm,and_true] at e1;obtain⟨p,cs0,hp,_⟩:=hH.blk i _ hi
  have hα:w.cell? α=some (.string ⟨y.toArray⟩)∧w.frozen? α=false∧α.spot=none:=by
    by_cases c1:c=1
    · subst c1
      obtain⟨p',D,rfl⟩:=a1 rfl;rw[hp] at D;obtain rfl:=aFE D;have:y=y1:=by rw[←hy];rfl
      subst this;have:=Om hH hi hp hn;exact⟨this.1,this.2,rfl⟩
    by_cases c2:c=2
    · subst c2
      obtain⟨p',D,rfl⟩:=a2 rfl;rw[hp] at D;obtain rfl:=aFE D;have:y=y2:=by rw[←hy];rfl
      subst this;have:=Om hH hi hp hk;exact⟨this.1,this.2,rfl⟩
    by_cases c3:c=3
    · subst c3
      obtain⟨bb,cap,M,hd,rfl⟩:=a3 rfl;have:y=G4 l3:=by rw[←hy];rfl
      subst this;have hl:List.length l3=n3:=(hH.blk k3 _ h3).1;have F:n3-1<l3.length:=by omega
      have hx:l3[n3-1]? =some (G4 l3):=by
        unfold G4;rw[aFV,hl,aFG F];rfl
      have:=On (o':=0) hH h3 M hx (fun cs hR=>by rw[show cs=[.string ⟨(G4 l3).toArray⟩] from hR];rfl) (by simp [Ty.cells]);simp only[Ty.cells,aHj,aGK] at this;exact⟨this.1,this.2,rfl⟩
    obtain⟨bb,cap,M,hd,rfl⟩:=a4 pP
    have:y=JM l4:=by
      rw[←hy];unfold M2;rw[aFA c1,aFA c2,aFA c3]
    subst this;have hl:List.length l4=n4:=(hH.blk k4 _ h4).1;have F:n4-1<List.length l4:=by omega
    have hx:l4[n4-1]? =some (l4.getD (l4.length-1) ([],[],())):=by
      rw[aFV,hl,aFG F];rfl
    have:=On (t:=HL) (o':=1) (v:= .string ⟨(JM l4).toArray⟩) hH h4 M hx (fun cs hR=>by
      obtain⟨d1,d2,rfl,r1,e1,e2,rfl,r2,r3⟩:=hR;rw[show d1=[_] from r1,show e1=[_] from r2];rfl) (by simp [Ty.cells])
    simp only[Ty.cells] at this;exact⟨this.1,this.2,rfl⟩
  have hc: ∀w1,Below w.heap.size w w1→Calls P HE #[.string ⟨(y++s).toArray⟩] w1 fun e w'=>e= .returned (.bool ok)∧Below w1.heap.size w1 w':=by
    intro w1 ha
    obtain⟨F,hg⟩:HE<1000000000∧Γ HE=some sg:=by
      unfold JL at R;split at R
      .rename_i h;exact⟨h,R⟩
      cases R
    have hU:FX w1:=JF hH.tab.1 ha.size (fun q hq=>ha.block q (aF9 hq hH.tab.1.1));have hV:sK ⟨fun _ _=>False,fun _=>none,fun _ _=>none⟩ w1 (r5 0 []):=⟨fun _ _ h=>(by cases h),fun _ _ _ _ _ _ _ h=>(by cases h),fun _ _ h=>h.elim,⟨hU,fun _ _ _ _ h=>(by cases h)⟩⟩;refine((hΓ HE sg F hg).1.2 _ w1 [(.val .str (y++s),none)] [.string ⟨(y++s).toArray⟩] [] _ hV ⟨_,[],rfl,⟨.inr ⟨rfl,rfl⟩,trivial⟩,rfl⟩ hC hE).mono ?_;rintro en w' ⟨v,g',rfl,r⟩;refine⟨by rw[vT r.ret.1],r.fr.os,r.fr.tape,r.fr.output,r.fr.size,fun q hq=>r.fr.blk q hq fun oo ⟨j,blk,h1,_⟩=>(by cases h1)⟩
  have key:=hQ w b α y s ok Y hα.1 hα.2.1 hα.2.2 hJ hc;intro K Q hK;refine X7 ho (caps:=[.pointer (some ⟨b,0,none⟩)]) (by rw[e1]) hM ?_;rw[hv,hD];refine key.mono ?_;rintro en w' ⟨rfl,w1,hh,hA⟩;have E0:=rR.below hH hh;have E1:=Ol (b:=ok&&decide (c=1)) (y:=y++s) (o:=6) E0.heap hi hp hu;have hL:qO (r7 [(i,qJ.cells u x1 (tK ts 6 1))] H) i=some (.cells u x1 (tK ts 6 1)):=by simp [r7,qO]
  have E2:=Ol (b:=ok&&decide (c=2)) (y:=y++s) (o:=7) E1.heap hL hp ht
  have hX:qO (r7 [(i,qJ.cells u x2 (tK (tK ts 6 1) 7 1))] (r7 [(i,qJ.cells u x1 (tK ts 6 1))] (r7 [] H))) k3=some (.row e3 .str l3 n3):=by
    simp only[r7,qO];rw[aFA I,aFA I];exact h3
  obtain⟨bb,cap,X⟩: ∃bb cap,((ok&&decide (c=3))=true→g.cur k3 n3=some (.slice (some ⟨bb,0,none⟩) n3 cap)∧0<n3∧α=⟨bb,n3-1,none⟩):=by
    by_cases c3:c=3
    · obtain⟨bb,cap,q1,q2,q3⟩:=a3 c3
      exact⟨bb,cap,fun _=>⟨q1,q2,q3⟩⟩
    exact⟨0,0,fun h=>by simp [c3] at h⟩
  obtain⟨g3,E3⟩:=a52 (b:=ok&&decide (c=3)) (z:=y++s) (bb:=bb) (cap:=cap) E2.heap hX (fun h=>⟨(X h).1,(X h).2.1⟩)
  have hW:qO (r7 [(k3,qJ.row e3 .str (G5 (ok&&decide (c=3)) (y++s) l3) n3)] (r7 [(i,qJ.cells u x2 (tK (tK ts 6 1) 7 1))] (r7 [(i,qJ.cells u x1 (tK ts 6 1))] (r7 [] H)))) k4=some (.row e4 HL l4 n4):=by
    simp only[r7,qO];rw[aFA U,aFA G,aFA G];exact h4
  obtain⟨bb4,cap4,V⟩: ∃bb cap,((ok&&decide (4≤c))=true→g.cur k4 n4=some (.slice (some ⟨bb,0,none⟩) n4 cap)∧0<n4∧α=⟨bb,(n4-1)*2+1,none⟩):=by
    by_cases c4:4≤c
    · obtain⟨bb,cap,q1,q2,q3⟩:=a4 c4
      exact⟨bb,cap,fun _=>⟨q1,q2,q3⟩⟩
    exact⟨0,0,fun h=>by simp [c4] at h⟩
  obtain⟨g4,E4⟩:=a54 (b:=ok&&decide (4≤c)) (z:=y++s) (bb:=bb4) (cap:=cap4) E3.heap hW (fun h=>⟨E3.le.cur _ _ _ (V h).1,(V h).2.1⟩);have T1:=rR.trans (side:=[]) (rds:=[]) E0 E1;have T2:=rR.trans (side:=[]) (rds:=[]) T1 E2;have T3:=rR.trans (side:=[]) (rds:=[]) T2 E3;have T4:=rR.trans (side:=[]) (rds:=[]) T3 E4
  have hz:(if (ok&&decide (4≤c))=true then(if (ok&&decide (c=3))=true then(if (ok&&decide (c=2))=true then(if (ok&&decide (c=1))=true then w1.setCells p.1 (p.2+6) [.string ⟨(y++s).toArray⟩] else w1).setCells p.1 (p.2+7) [.string ⟨(y++s).toArray⟩] else(if (ok&&decide (c=1))=true then w1.setCells p.1 (p.2+6) [.string ⟨(y++s).toArray⟩] else w1)).setCells bb (n3-1) [.string ⟨(y++s).toArray⟩] else(if (ok&&decide (c=2))=true then(if (ok&&decide (c=1))=true then w1.setCells p.1 (p.2+6) [.string ⟨(y++s).toArray⟩] else w1).setCells p.1 (p.2+7) [.string ⟨(y++s).toArray⟩] else(if (ok&&decide (c=1))=true then w1.setCells p.1 (p.2+6) [.string ⟨(y++s).toArray⟩] else w1))).setCells bb4 ((n4-1)*2+1) [.string ⟨(y++s).toArray⟩] else(if (ok&&decide (c=3))=true then(if (ok&&decide (c=2))=true then(if (ok&&decide (c=1))=true then w1.setCells p.1 (p.2+6) [.string ⟨(y++s).toArray⟩] else w1).setCells p.1 (p.2+7) [.string ⟨(y++s).toArray⟩] else(if (ok&&decide (c=1))=true then w1.setCells p.1 (p.2+6) [.string ⟨(y++s).toArray⟩] else w1)).setCells bb (n3-1) [.string ⟨(y++s).toArray⟩] else(if (ok&&decide (c=2))=true then(if (ok&&decide (c=1))=true then w1.setCells p.1 (p.2+6) [.string ⟨(y++s).toArray⟩] else w1).setCells p.1 (p.2+7) [.string ⟨(y++s).toArray⟩] else(if (ok&&decide (c=1))=true then w1.setCells p.1 (p.2+6) [.string ⟨(y++s).toArray⟩] else w1))))=w':=by
    rw[hA];cases ok with
    |false=>simp
    | true=>
      by_cases c1:c=1
      · subst c1
        obtain⟨p',D,rfl⟩:=a1 rfl;rw[hp] at D;obtain rfl:=aFE D;simp
      by_cases c2:c=2
      · subst c2
        obtain⟨p',D,rfl⟩:=a2 rfl;rw[hp] at D;obtain rfl:=aFE D;simp
      by_cases c3:c=3
      · subst c3
        rw[(X pR).2.2];simp
      have c4:4≤c:=by omega
      rw[(V (by simp [c4])).2.2];simp [c1,c2,c3,c4]
  rw[hz] at T4;refine⟨_,rfl,hK g4 w' _ (rR.w ?_)⟩;refine(rR.more (sd2:=[]) (r2:=[]) (U2:=[(i,qJ.cells u x2 (tK (tK ts 6 1) 7 1)),(k3,.row e3 .str (G5 (ok&&decide (c=3)) (y++s) l3) n3),(k4,.row e4 HL (G6 (ok&&decide (4≤c)) (y++s) l4) n4)]) T4 (fun j=>?_) (fun j hj=>?_)).slot' ⟨.inr ⟨rfl,rfl⟩,trivial⟩
  · simp only[r7,qO]
    by_cases j1:i=j
    · subst j1
      rw[aFz rfl,aFA (Ne.symm G),aFA (Ne.symm I),aFz rfl]
    rw[aFA j1]
    by_cases j3:k3=j
    · subst j3
      rw[aFz rfl,aFA (Ne.symm U),aFz rfl]
    rw[aFA j3]
    by_cases j4:k4=j
    · subst j4
      rw[aFz rfl,aFz rfl]
    rw[aFA j4,aFA j4,aFA j3,aFA j1,aFA j1]
  simp only[r7,qQ,aFN,aG5,or_false] at hj|-
  rcases hj with rfl|rfl|rfl|rfl<;>simp
theorem a57 {fop:Operand}{args:Array Operand}{tys:Array TypeId}(ho:o.op= .call ⟨.value fop,args,tys⟩) {ρ:Operand→qK}(hf:rS g w (ρ fop) (a.eval fop)) (hρ: ∀x∈args.toList,rS g w (ρ x) (a.eval x)) {base:Nat}{e:qY}
    (hr:OU T Γ base H (C8 T ρ args.toList tys.toList) (ρ fop)=some e) (z: ∀p∈e.side,p) (j:yJ g base e) (h:args.size=tys.size):rN P o a g w H e:=by
  unfold OU at hr;split at hr
  · rename_i x k heq
    rw[heq] at hf;exact a56 hT hΓ hH ho hf.1 hρ hr z h
  · rename_i f caps k heq
    unfold fh at hr;split at hr
    · rename_i D
      rw[heq] at hf;unfold Kn at hr;split at hr
      · subst D
        refine a5X hT hΓ hH ho ?_ hρ hr h;rcases hf.1 with⟨F,_⟩ |⟨_,vs,E,h3⟩
        .cases F
        rw[show vs=[] from E] at h3
        simpa using h3
      cases hr
    exact Ok hT hΓ hH ho hf hρ (by rw[heq];exact hr) z j h
  rename_i s _ _
  exact Ok hT hΓ hH ho hf hρ hr z j h
theorem Oo: ∀{xs:List Operand}{ts:List TypeId},M1 xs ts=true→xs.length=ts.length
  |[],[],_=>rfl
  |_::xs,_::ts,h=>by simp only[M1] at h;simp [Oo h]
  |[],_::_,h=>by cases h
  |_::_,[],h=>by cases h
theorem ji {op:Op}(ho:o.op=op) {ρ:Operand→qK}(hρ: ∀x∈sV op,rS g w (ρ x) (a.eval x)) {base:Nat}{e:qY}(hr:uN T Γ o.type ρ base H op=some e) (z: ∀p∈e.side,p) (hf:yJ g base e):rN P o a g w H e:=by
  unfold uN at hr;split at hr
  · rename_i x
    exact Mk hT hH (.inl ho) (hρ x (by simp [sV])) hr hf
  · rename_i x
    exact Mk hT hH (.inr ho) (hρ x (by simp [sV])) hr hf
  .exact a4Z hT hH ho hr hf
  · rename_i t x
    exact a40 hT hH ho (hρ x (by simp [sV])) (fun _=>io hT hΓ hH (hρ x (by simp [sV]))) hr hf
  · rename_i t ps
    exact a4D hT hH ho (ρ:=ρ) (fun q hq=>hρ q.2 (by
      simp only[sV];generalize ps.toList=l at hq
      induction l with
      |nil=>cases hq
      |cons p l ih=>rcases aFN.1 hq with rfl|h<;>simp_all [sV.parts])) hr
  · rename_i t n ps
    exact a5a hT hH ho (ρ:=ρ) (fun q hq=>hρ q.2 (by
      simp only[sV];generalize ps.toList=l at hq
      induction l with
      |nil=>cases hq
      |cons p l ih=>rcases aFN.1 hq with rfl|h<;>simp_all [sV.parts])) hr hf
  · rename_i t x
    exact a4S hT hH ho (hρ x (by simp [sV])) hr z
  · rename_i t x y
    exact a49 hT hH ho (hρ x (by simp [sV])) (io hT hΓ hH (hρ y (by simp [sV]))) hr z hf
  · rename_i x
    exact a4x hT hH ho (hρ x (by simp [sV])) hr
  · rename_i op t x y t'
    cases hw:UU op (rY T t) (ρ x) (ρ y) with
    | some r=>
      rw[hw] at hr;exact a4o hH ho (hρ x (by simp [sV])) (hρ y (by simp [sV])) (by rw[hw];exact hr)
    |none=>
    rw[hw] at hr;cases hb:UT op (ρ x) (ρ y) with
    | some r=>
      rw[hb] at hr;exact a4n hH ho (hρ x (by simp [sV])) (hρ y (by simp [sV])) (by rw[hb];exact hr) z
    | none=>
      rw[hb] at hr;exact a5N hT hH ho (hρ x (by simp [sV])) (hρ y (by simp [sV])) hr
  · rename_i op t x
    exact a4p hH ho (hρ x (by simp [sV])) hr z
  · rename_i t t' x
    cases hb:UW (rY T t) (rY T t') (ρ x) with
    | some r=>
      rw[hb] at hr;exact a4q hT hH ho (hρ x (by simp [sV])) (by rw[hb];exact hr)
    | none=>
      rw[hb] at hr;exact a5R hT hH ho (hρ x (by simp [sV])) hr
  · rename_i f first caps
    have F:first= #[]:=by
      cases hl:first.toList with
      |nil=>apply aGL.1;simpa using hl
      |cons x l=>rw[hl] at hr;cases hr
    subst F;exact a4H hT hH ho (ρ:=ρ) (fun x j=>hρ x (by simpa[sV] using j)) hr
  · rename_i t x lo hi
    refine a4T hT hH ho (ρ:=ρ) (hρ x (by simp [sV])) (fun y D=>hρ y ?_) (fun y D=>hρ y ?_) hr z
    · cases lo with
      |none=>simp at D
      |some l=>simp at D;subst D;simp [sV,sV.opt,r7]
    cases hi with
    |none=>simp at D
    |some l=>simp at D;subst D;cases lo<;>simp [sV,sV.opt,r7]
  · rename_i t x f
    exact a4v hT hH ho (hρ x (by simp [sV])) hr
  · rename_i t x f
    exact a4u hT hH ho (hρ x (by simp [sV])) hr
  · rename_i t x ix
    exact a4z hT hH ho (hρ x (by simp [sV])) (hρ ix (by simp [sV])) hr z
  · rename_i t x ix
    exact a4y hT hH ho (hρ x (by simp [sV])) (hρ ix (by simp [sV])) hr z
  · rename_i x i
    exact a4w hT hH ho (hρ x (by simp [sV])) hr z
  · rename_i t r
    exact a5d hT hH ho hr hf
  · rename_i t x
    exact a5j hT hH ho (hρ x (by simp [sV])) hr hf
  · rename_i x b
    exact a5k hT hH ho (hρ x (by simp [sV])) hr
  · rename_i t x i ok
    exact a5g hT hH ho (hρ x (by simp [sV])) (hρ i (by simp [sV])) hr
  · rename_i t m k x
    exact My hT hH (.inl ho) (hρ m (by simp [sV])) (hρ k (by simp [sV])) (Mx (hρ x (by simp [sV]))) hr
  · rename_i t m k x
    exact My hT hH (.inr ho) (hρ m (by simp [sV])) (hρ k (by simp [sV])) (Mx (hρ x (by simp [sV]))) hr
  · rename_i c
    obtain⟨cal,args,tys⟩:=c;simp only at hr;unfold M5 at hr;split at hr
    .exact a4G hT hH ho (ρ:=ρ) (fun x j=>hρ x (by simpa[sV] using j)) hr
    .exact a5S hT hH ho (ρ:=ρ) (fun x j=>hρ x (by simpa[sV] using j)) hr z
    .exact Lx (mx:=true) hT hH ho (ρ:=ρ) (fun x j=>hρ x (by simpa[sV] using j)) hr
    .exact Lx (mx:=false) hT hH ho (ρ:=ρ) (fun x j=>hρ x (by simpa[sV] using j)) hr
    · rename_i f
      cases E:M1 args.toList tys.toList with
      |false=>rw[E] at hr;cases hr
      | true=>
        rw[E] at hr;simp only[fi] at hr;exact a57 hT hΓ hH ho (hρ f (by simp [sV])) (fun x j=>hρ x (by simp [sV];right;simpa using j)) hr z hf (by simpa using Oo hT hΓ hH E)
    cases hr
  cases hr
end
def BC (g:Gh) (w:q8) (env:List (Nat×qK)) (tmps:Array q9):Prop:= ∀t,rS g w (lk env t) (tmps.getD t undef)
def AK (B:Nat) (w:q8) (ds:List Deferred):Prop:=ds.Nodup/\∀d∈ds,∃D,d={target:= .collected D,args:= #[]}/\B<=D/\NG<=D/\w.heap[D]? =some (.deferred (some []))
theorem Oq (B:Nat) (w:q8):AK B w []:=⟨List.nodup_nil,fun d h=>by cases h⟩
theorem AK.same {B:Nat}{w w':q8}{ds:List Deferred}(h:AK B w ds) (hb: ∀D:Nat,w.heap[D]? =some (Obj.deferred (some []))->w'.heap[D]? =some (Obj.deferred (some []))):AK B w' ds:=
 ⟨h.1,fun d j=>by obtain⟨D,E,z,h0,h3⟩:=h.2 d j;exact⟨D,E,z,h0,hb D h3⟩⟩
def I0:Obj->Bool
 | .deferred _=>true
 | .loop _=>true
 |_=>false
theorem jj {w:q8}{b:Nat}{ob:Obj}(h:w.heap[b]? =some ob) (hm:I0 ob=true) (o:Nat):w.cell? ⟨b,o,none⟩=none:=by
 unfold World.cell?;simp only[h];cases ob<;>first|rfl|cases hm
theorem XG {g:Gh}{w:q8}{i:Nat}{blk:qJ}(h:AT g w i blk) {b o:Nat}(ho:sH g i blk b o) {ob:Obj}(z:w.heap[b]? =some ob) (hm:I0 ob=true):False:=by
 have D: ∀{e:TypeId}{c n:Nat}{v:q9}{xs:pW},w.ownsRow 0 e c v n xs->v.ownBlock=some b->False:=by
  intro e c n v xs hr hb;rcases hr.2 with⟨rfl,_⟩ |⟨g',cap,cur,rfl,_,h3,_⟩
  .cases hb
  simp only[Value.ownBlock,aFy] at hb;subst hb;rw[z] at h3;cases h3;cases hm
 cases blk with
 |cells t x toks=>
  obtain⟨p,cs,hp,_,_,I,_⟩:=h;obtain⟨q,hq,rfl,F,E⟩:=ho;rw[hp] at hq;obtain rfl:=aFE hq;have:=(I.1 (o-p.2) pP).1;rw[jj z hm] at this;cases this
 |grow e c n=>
  obtain⟨v,xs,G,hr,_⟩:=h;obtain⟨v',j,hb⟩:=ho;rw[G] at j;obtain rfl:=aFE j;exact D hr hb
 |row e t l n=>
  obtain⟨_,v,xs,G,hr,_⟩:=h;obtain⟨v',j,hb⟩:=ho;rw[G] at j;obtain rfl:=aFE j;exact D hr hb
 |map k v l=>
  obtain⟨p,es,cl,hp,h0,E,_⟩:=h;obtain⟨q,hq,F⟩:=ho;rw[hp] at hq;obtain rfl:=aFE hq;rw[show b=p.1 from F] at z;rw[E] at z;cases z;cases hm
 |iter s n=>
  obtain⟨p,hp,h0,E,_⟩:=h;obtain⟨q,hq,F⟩:=ho;rw[hp] at hq;obtain rfl:=aFE hq;rw[show b=p.1 from F] at z;rw[E] at z;cases z;cases hm
 |dead=>exact ho.elim
theorem AK.eff {B:Nat}{g g':Gh}{w w':q8}{H:sF}{e:qY}{v:q9}{ds:List Deferred}(h:AK B w ds) (hH:sK g w H) (k:AH g w H e g' w' v):AK B w' ds:=
 h.same fun D j=>by
  rw[k.fr.blk D (aF1.1 j).1 (fun o ⟨i,blk,_,E,z⟩=>XG (hH.blk i blk E) z j rfl)];exact j
structure vB (B:Nat) (g:Gh) (w:q8) (s:St) (a:Act):Prop where
 env:BC g w s.env a.tmps
 heap:sK g w s.H
 size:a.tmps.size=s.N
 nb: ∀i,s.nb<=i->g.J i=none/\∀n,g.cur i n=none
 def_:AK B w a.defers
 np:s.np<=s.nb
theorem a58 (g:Gh) (w:q8) (v:q9):zJ g w (bw v) v:=by
 unfold bw;split
 .exact vU _ _ _
 .exact wI _ _ _ _
 .rename_i s;have:=CZ g w s.data.toList;rw[aG6] at this;exact this
 .exact rfl
 .exact .inr ⟨rfl,rfl⟩
 .exact .inr ⟨rfl,rfl⟩
 .exact .inr ⟨rfl,rfl⟩
 exact trivial
theorem AW {g:Gh}{w:q8}{env:List (Nat×qK)}{a:Act}(h:BC g w env a.tmps) (x:Operand):rS g w (u7 env x) (a.eval x):=by
 cases x with
 |tmp t=>exact h t
 |const v=>exact⟨a58 g w v,trivial⟩
 |func f=>exact⟨.inr ⟨rfl,[],rfl,rfl⟩,trivial⟩
 |global i=>exact⟨trivial,trivial⟩
theorem P7 {g:Gh}{w:q8}{G:Bool}(K:G=true): ∀{ss:List qK}{s:qK}{v:q9},s∈ss->(∀p∈zR G ss,p)->rS g w s v->rS g w (uB s) v
 |x::ss,s,v,hm,F,E=>by
  have D: ∀{s:qK},(∀p∈zR G [s],p)->rS g w s v->rS g w (uB s) v:=by
   intro s F E;obtain⟨d,k⟩:=s;cases d with
   |cond p d=>
    refine⟨E.1.1 (F (G=true->p=true) (by simp [zR]) K),?_⟩;simp only[uB]
   |_=>exact E
  have z: ∀p,p∈zR G [x]->p∈zR G (x::ss):=by
   intro p hp;unfold zR at hp|-;split at hp
   .cases hp
   .rename_i heq;simp only[aGm] at heq;obtain⟨rfl,rfl⟩:=heq;rcases aFN.1 hp with h|h
    .exact h▸aFT
    cases h
   rename_i h0 heq;simp only[aGm] at heq;obtain⟨_,rfl⟩:=heq;cases hp
  have j: ∀p,p∈zR G ss->p∈zR G (x::ss):=by
   intro p hp;generalize I:zR G ss=L at hp;unfold zR;split
   .rename_i h;cases h
   .rename_i heq;simp only[aGm] at heq;obtain⟨_,rfl⟩:=heq;rw[I];exact aFK _ hp
   rename_i heq;simp only[aGm] at heq;obtain⟨_,rfl⟩:=heq;rw[I];exact hp
  rcases aFN.1 hm with rfl|hm
  .exact D (fun p hp=>F p (z p hp)) E
  exact P7 K hm (fun p hp=>F p (j p hp)) E
theorem XH {env:List (Nat×qK)}: ∀{xs:List Operand}{x:Operand},x∈xs->u7 env x∈CU env xs
 |y::xs,x,h=>by
  simp only[CU];rcases aFN.1 h with rfl|h
  .exact aFT
  exact aFK _ (XH h)
theorem RZ: ∀(ops:List Oper) (j:Nat),AQ ops j=(ops[j]?).bind (·.dst)
 |[],j=>by simp [AQ]
 |o::_,0=>rfl
 |_::r,j+1=>by simpa[AQ] using RZ r j
section
variable {P:Program}{g:Gh}{w:q8}{T:sW}{Γ:tH}(hT:xU P T) (hΓ:ET P Γ)
include hT hΓ
theorem a59 {ops:List Oper}{o:Oper}{a:Act}{env:List (Nat×qK)}(D:BC g w env a.tmps) {j:Nat}{b:Bool}(M:o.guard=some (j,b)) {G:Bool}(h:HP env b (AQ ops j)=some G):Region.wanted o (yielded ops.toArray a.tmps)=G:=by
 rw[RZ] at h;unfold Region.wanted;rw[M];simp only;cases I:(ops[j]?).bind (·.dst) with
 |none=>rw[I] at h;cases h
 |some t=>
  rw[I] at h;simp only[HP] at h;have F:yielded ops.toArray a.tmps j=match a.tmps[t]? with|some (.bool b)=>some b|_=>none:=by
   unfold yielded;have:(ops.toArray[j]?).bind (·.dst)=some t:=by simpa using I
   rw[this];rfl
  have E:=D t;generalize hl:lk env t=s at h E;unfold Ks at h;have hb: ∀c,a.tmps.getD t undef= .bool c->a.tmps[t]? =some (.bool c):=by
   intro c z;rw[aF7] at z;cases hq:a.tmps[t]? with
   |none=>rw[hq] at z;simp [undef] at z
   |some v=>rw[hq] at z;simp at z;rw[z]
  split at h
  .rename_i c k;simp only[aFy] at h;have:=hb _ (vT E.1);rw[F,this,<-h];cases c<;>cases b<;>rfl
  .rename_i p c k;simp only[aFy] at h;subst h;cases p with
   |true=>
    have:=hb _ (vT (E.1.1 rfl));rw[F,this];cases c<;>cases b<;>rfl
   |false=>
    have K:=E.1.2 rfl;have: ∀c,a.tmps[t]? ≠some (.bool c):=by
     intro c z;rw[aF7,z] at K;simp [undef] at K
    rw[F];cases hq:a.tmps[t]? with
    |none=>cases b<;>rfl
    |some v=>cases v<;>first|(exact absurd hq (this _)) |(cases b<;>rfl)
  cases h
theorem a6a {ops:List Oper}{o:Oper}{a:Act}{env:List (Nat×qK)}(F:BC g w env a.tmps) {j:Nat}{b:Bool}(M:o.guard=some (j,b)) (h:M6 env b (AQ ops j)=false):Region.wanted o (yielded ops.toArray a.tmps)=false:=by
 rw[RZ] at h;unfold Region.wanted;rw[M];simp only;cases I:(ops[j]?).bind (·.dst) with
 |none=>rw[I] at h;cases h
 |some t=>
  rw[I] at h;simp only[M6] at h;have G:yielded ops.toArray a.tmps j=match a.tmps[t]? with|some (.bool b)=>some b|_=>none:=by
   unfold yielded;have:(ops.toArray[j]?).bind (·.dst)=some t:=by simpa using I
   rw[this];rfl
  have D:=F t;generalize hl:lk env t=s at h D;have hb: ∀c,a.tmps.getD t undef= .bool c->a.tmps[t]? =some (.bool c):=by
   intro c z;rw[aF7] at z;cases hq:a.tmps[t]? with
   |none=>rw[hq] at z;simp [undef] at z
   |some v=>rw[hq] at z;simp at z;rw[z]
  have E:a.tmps.getD t undef=undef->(yielded ops.toArray a.tmps j==some b)=false:=by
   intro K;have: ∀c,a.tmps[t]? ≠some (.bool c):=by
    intro c z;rw[aF7,z] at K;simp [undef] at K
   rw[G];cases hq:a.tmps[t]? with
   |none=>cases b<;>rfl
   |some v=>cases v<;>first|(exact absurd hq (this _)) |(cases b<;>rfl)
  unfold Kt at h;split at h
  .rename_i c k;have:=hb _ (vT D.1);rw[G,this];cases c<;>cases b<;>first|rfl|cases h
  .rename_i p c k;cases p with
   |true=>
    have:=hb _ (vT (D.1.1 rfl));rw[G,this];cases c<;>cases b<;>first|rfl|cases h
   |false=>exact E (D.1.2 rfl)
  .rename_i p k;subst h;exact E (D.1.2 rfl)
  cases h
theorem S0 {G:Bool}{p:Prop}: ∀{l:List Prop},p∈l->(G=true->p)∈RC G l
 |q::l,h=>by
  simp only[RC];rcases aFN.1 h with rfl|h
  .exact aFT
  exact aFK _ (S0 h)
theorem jk {o:Oper}{a:Act}{H:sF}(hH:sK g w H) {c x y:Operand}(F:o.op= .pick c x y) {sc sx sy:qK}(O:rS g w sc (a.eval c)) (E:rS g w sx (a.eval x)) (D:rS g w sy (a.eval y)) {e:qY}(hr:RB sc sx sy=some e) (j: ∀p∈e.side,p):rN P o a g w H e:=by
 intro K Q R;unfold RB at hr;split at hr
 .rename_i z k;have G:=vT O.1;have run:(execOp a.eval o).run P w= .ok (.value (if z then a.eval x else a.eval y)) w:=by
   unfold execOp;rw[F];simp [G,asBool]
  have fin: ∀{v:Bool}{side:List Prop},(if z then a.eval x else a.eval y)= .bool v->e=⟨side,(.val .bool v,none),[],[]⟩->o.wp P a w K Q:=by
   intro v side I M;subst M;refine rN.value (v:= .bool v) (g':=g) (w':=w) (H:=H) (by rw[run,I]) (.pure hH (s:=(.val .bool v,none)) ⟨(vU g w v:zJ g w (.val .bool v) (.bool v)),trivial⟩) K Q R
  unfold Ku at hr;split at hr
  .rename_i m1 _ m2 _;simp only[aFy] at hr;refine fin (v:=cond z m1 m2) ?_ hr.symm;cases z
   .exact vT D.1
   exact vT E.1
  .rename_i p m1 _ m2 _;simp only[aFy] at hr;refine fin (v:=cond z m1 m2) ?_ hr.symm;cases z
   .exact vT D.1
   exact vT (E.1.1 (j (true=true->p=true) (by rw[<-hr];simp) rfl))
  .rename_i m1 _ p m2 _;simp only[aFy] at hr;refine fin (v:=cond z m1 m2) ?_ hr.symm;cases z
   .exact vT (D.1.1 (j (false=false->p=true) (by rw[<-hr];simp) rfl))
   exact vT E.1
  .rename_i q m1 _ p m2 _;simp only[aFy] at hr;refine fin (v:=cond z m1 m2) ?_ hr.symm;cases z
   .exact vT (D.1.1 (j (false=false->p=true) (by rw[<-hr];simp) rfl))
   exact vT (E.1.1 (j (true=true->q=true) (by rw[<-hr];simp) rfl))
  .rename_i m1 _ p _;simp only[aFy] at hr;have h:z=true:=j _ (by rw[<-hr];simp);refine fin (v:=m1) ?_ hr.symm;rw[h];exact vT E.1
  .rename_i q m1 _ p _;simp only[aFy] at hr;have h:z=true:=j (z=true) (by rw[<-hr];simp);refine fin (v:=m1) ?_ hr.symm;rw[h];exact vT (E.1.1 (j (q=true) (by rw[<-hr];simp)))
  .rename_i p _ m2 _;simp only[aFy] at hr;have h:z=false:=j _ (by rw[<-hr];simp);refine fin (v:=m2) ?_ hr.symm;rw[h];exact vT D.1
  .rename_i p _ q m2 _;simp only[aFy] at hr;have h:z=false:=j (z=false) (by rw[<-hr];simp);refine fin (v:=m2) ?_ hr.symm;rw[h];exact vT (D.1.1 (j (q=true) (by rw[<-hr];simp)))
  cases hr
 cases hr
omit hT hΓ in
theorem S1 {np:Nat}{x:Option qY}{e:qY}(h:ft np x=some e):x=some e/\(JG e.rds=true->JO np e.upd=true):=by
 cases x with
 |none=>cases h
 |some q=>
  simp only[ft] at h;cases hq:JG q.rds with
  |false=>
   rw[hq] at h;cases h;exact⟨rfl,fun h=>by rw[hq] at h;cases h⟩
  |true=>
   rw[hq] at h;simp only[Kx] at h;split at h
   .rename_i j;cases h;exact⟨rfl,fun _=>j⟩
   cases h
omit hT hΓ in
theorem Ot {np:Nat}{H:sF}: ∀{U:List (Nat×qJ)},JO np U=true->∀{i:Nat}{u:Ty}{y:u.den}{us:pU},i<np->qO (r7 U H) i=some (.cells u y us)->qO H i=some (.cells u y us)
 |[],_,i,u,y,us,_,h=>h
 |(j,b)::U,h,i,u,y,us,hi,z=>by
  simp only[r7,qO] at z;split at z
  .rename_i e;subst e;simp only[aFy] at z;subst z;simp only[JO] at h;split at h
   .omega
   cases h
  refine Ot ?_ hi z;unfold JO at h;split at h
  .rename_i heq;cases heq
  .rename_i heq;cases heq;split at h
   .exact h
   cases h
  rename_i heq;cases heq;exact h
theorem Ou {ops:List Oper}{o:Oper}{a:Act}{s:St}{e:qY}(z:BC g w s.env a.tmps) (hH:sK g w s.H) (hr:AG T Γ ops o s=some e) (I: ∀p∈e.side,p) (hf:yJ g s.nb e) {K:Act->q8->Prop}{Q:Exit->Act->q8->Prop}
  (R: ∀g' w' v,AH g w s.H e g' w' v->K (a.put o.dst v) w'):
  if Region.wanted o (yielded ops.toArray a.tmps) then o.wp P a w K Q else K (a.put o.dst undef) w:=by
 replace hr:=(S1 hr).1;unfold P0 at hr;cases O:o.guard with
 |none=>
  rw[O] at hr;simp only at hr;have hw:Region.wanted o (yielded ops.toArray a.tmps)=true:=by unfold Region.wanted;rw[O]
  rw[aFz hw];cases E:o.op with
  |pick c x y=>
   rw[E] at hr;simp only[OZ] at hr;exact jk hT hΓ hH E (AW z c) (AW z x) (AW z y) hr I K Q R
  |_=>
   rw[E] at hr;simp only[OZ] at hr;rw[<-E] at hr;generalize F:uN T Γ o.type (fun x=>uB (u7 s.env x)) s.nb s.H o.op=op at hr;cases op with
   |none=>cases hr
   |some e0=>
    simp only[OX,aFy] at hr;subst hr;refine ji hT hΓ hH rfl (ρ:=fun x=>uB (u7 s.env x)) (fun x U=>?_) F (fun p hp=>I p (xG.2 (.inr hp))) hf K Q (fun g' w' v h=>R g' w' v ⟨h.le,h.slot,h.heap,h.fr,h.perm,h.gho,h.ty⟩);exact P7 rfl (XH U) (fun p hp=>I p (xG.2 (.inl hp))) (AW z x)
 |some jb=>
  obtain⟨j,b⟩:=jb;rw[O] at hr;simp only at hr;cases V:Γ (WG j b) with
  |some sg=>
   rw[V] at hr;simp only[RD] at hr;cases Y:Kv o.op with
   |true=>rw[Y] at hr;cases hr
   |false=>
   rw[Y] at hr;simp only[Kw,aFy] at hr;subst hr;have Z:M6 s.env b (AQ ops j)=false:=I _ aFT;rw[a6a hT hΓ z O Z,aFA pQ];exact R g w undef (AH.pure hH ⟨⟨fun M=>(by cases M),fun _=>rfl⟩,trivial⟩)
  |none=>
  rw[V] at hr;simp only[RD] at hr;generalize hG:HP s.env b (AQ ops j)=oG at hr;cases oG with
  |none=>cases hr
  |some G=>
   have hw:=a59 hT hΓ z O hG;rw[hw];by_cases X: ∃c x y,o.op= .pick c x y
   .obtain⟨c,x,y,E⟩:=X;rw[E] at hr;simp only[OY] at hr;generalize F:RB (uB (u7 s.env c)) (u7 s.env x) (u7 s.env y)=op at hr;cases op with
    |none=>cases hr
    |some e0=>
     unfold JN at hr;split at hr
     .rename_i side d k rds heq;simp only[aFy] at hr heq;subst hr;subst heq;by_cases D:G=true
      .rw[aFz D];refine jk hT hΓ hH E (P7 D (ss:=[u7 s.env c]) pR (fun p hp=>I p (xG.2 (.inl hp))) (AW z c)) (AW z x) (AW z y) F (fun p hp=>I (G=true->p) (xG.2 (.inr (S0 hT hΓ hp))) D) K Q (fun g' w' v h=>R g' w' v ⟨h.le,⟨⟨fun _=>h.slot.1,fun M=>by rw[D] at M;cases M⟩,trivial⟩,h.heap,h.fr,h.perm,h.gho,h.ty⟩)
      rw[aFA D];exact R g w undef (AH.pure hH ⟨⟨fun M=>absurd M D,fun _=>rfl⟩,trivial⟩)
     .rename_i side sl u us rds heq;simp only[aFy] at hr heq;subst hr;subst heq;have D:G=true:=I _ aFT;rw[aFz D];exact jk hT hΓ hH E (P7 D (ss:=[u7 s.env c]) pR (fun p hp=>I p (aFK _ (xG.2 (.inl hp)))) (AW z c)) (AW z x) (AW z y) F (fun p hp=>I (G=true->p) (aFK _ (xG.2 (.inr (S0 hT hΓ hp)))) D) K Q (fun g' w' v h=>R g' w' v ⟨h.le,h.slot,h.heap,h.fr,h.perm,h.gho,h.ty⟩)
     cases hr
   have e1:OY T Γ o s (some G) o.op=JN G (zR G (CU s.env (sV o.op))) (uN T Γ o.type (fun x=>uB (u7 s.env x)) s.nb s.H o.op):=by
    cases ho:o.op<;>first|rfl|(exact absurd ⟨_,_,_,ho⟩ X)
   rw[e1] at hr;generalize F:uN T Γ o.type (fun x=>uB (u7 s.env x)) s.nb s.H o.op=op at hr;cases op with
   |none=>cases hr
   |some e0=>
    unfold JN at hr;split at hr
    .rename_i side d k rds heq;simp only[aFy] at hr heq;subst hr;subst heq;by_cases D:G=true
     .rw[aFz D];refine ji hT hΓ hH rfl (ρ:=fun x=>uB (u7 s.env x)) (fun x U=>?_) F (fun p hp=>I (G=true->p) (xG.2 (.inr (S0 hT hΓ hp))) D) (fun i hi=>by cases hi) K Q (fun g' w' v h=>R g' w' v ⟨h.le,⟨⟨fun _=>h.slot.1,fun M=>by rw[D] at M;cases M⟩,trivial⟩,h.heap,h.fr,h.perm,h.gho,h.ty⟩);exact P7 D (XH U) (fun p hp=>I p (xG.2 (.inl hp))) (AW z x)
     rw[aFA D];exact R g w undef (AH.pure hH ⟨⟨fun M=>absurd M D,fun _=>rfl⟩,trivial⟩)
    .rename_i side sl u us rds heq;simp only[aFy] at hr heq;subst hr;subst heq;have D:G=true:=I _ aFT;rw[aFz D];refine ji hT hΓ hH rfl (ρ:=fun x=>uB (u7 s.env x)) (fun x U=>?_) F (fun p hp=>I (G=true->p) (aFK _ (xG.2 (.inr (S0 hT hΓ hp)))) D) hf K Q (fun g' w' v h=>R g' w' v ⟨h.le,h.slot,h.heap,h.fr,h.perm,h.gho,h.ty⟩);exact P7 D (XH U) (fun p hp=>I p (aFK _ (xG.2 (.inl hp)))) (AW z x)
    cases hr
end
structure tJ (A:Nat->Nat->Prop) (L:List qJ) (g0:Gh) (w0:q8) (g:Gh) (w:q8) (H:sF):Prop where
 shut: ∀b o,g0.S b o->g.S b o/\w.cell? ⟨b,o,none⟩=w0.cell? ⟨b,o,none⟩
 fr:Fr A w0 w g0.S g.S
 perm: ∀i blk b o,qO H i=some blk->sH g i blk b o->w0.heap.size<=b\/A b o
 J: ∀i p,i<L.length->g0.J i=some p->g.J i=some p
 live: ∀i,i<L.length->(∃p,g.J i=some p)\/(∃n v,g.cur i n=some v)
 ty: ∀i u y us,i<L.length->qO H i=some (.cells u y us)->∃x ts,L[i]? =some (.cells u x ts)
 cur: ∀i n v,i<L.length->g0.cur i n=some v->g.cur i n=some v
def tJ.eff {A:Nat->Nat->Prop}{L:List qJ}{g0 g g':Gh}{w0 w w':q8}{H:sF}{e:qY}{v:q9}(h:tJ A L g0 w0 g w H) (k:AH g w H e g' w' v) (K:JG e.rds=true->JO L.length e.upd=true):tJ A L g0 w0 g' w' (r7 e.upd H):=by
 have z: ∀b o,sY g H (qQ e.upd) b o->w0.heap.size<=b\/A b o:=fun b o ⟨i,blk,_,F,h3⟩=>h.perm i blk b o F h3;refine⟨fun b o I=>?_,h.fr.trans k.fr z,fun i blk b o E ho=>?_,fun i p hi hp=>k.le.J _ _ (h.J i p hi hp),fun i hi=>?_,fun i u y us hi E=>?_,fun i n u hi D=>k.le.cur _ _ _ (h.cur i n u hi D)⟩
 .obtain⟨j,F⟩:=h.shut b o I;exact⟨k.le.S b o j,(k.le.cell b o j).trans F⟩
 .by_cases hi:i∈qQ e.upd
  .rcases k.perm i blk b o hi E ho with j|j
   .exact .inl (aGA h.fr.size j)
   exact z b o j
  exact h.perm i blk b o ((AU hi).symm.trans E) ((xS (k.gho i hi).1 (k.gho i hi).2).1 ho)
 .rcases h.live i hi with⟨p,hp⟩ |⟨n,u,D⟩
  .exact .inl ⟨p,k.le.J _ _ hp⟩
  exact .inr ⟨n,u,k.le.cur _ _ _ D⟩
 cases G:JG e.rds with
 |true=>exact h.ty i u y us hi (Ot (K G) hi E)
 |false=>
  rcases k.ty G i u y us E with⟨x,ts,j⟩ |⟨j,F⟩
  .exact h.ty i u x ts hi j
  rcases h.live i hi with⟨p,hp⟩ |⟨n,u,D⟩
  .rw[j] at hp;cases hp
  rw[F] at D;cases D
def AL:pU->Nat->pY
 |[],_=>none
 |(n,o)::r,k=>if n=k then some o else AL r k
def uJ (g:Gh) (np:Nat) (m:pU):Gh:=
 ⟨g.S,fun i=>if i<np then g.J i else(AL m i).bind g.J,fun i n=>if i<np then g.cur i n else(AL m i).bind fun o=>g.cur o n⟩
def XI {n o:Nat}: ∀{m:pU},P1 n o m=false->∀n' o',(n',o')∈m->n'≠n/\o'≠o
 |[],_,_,_,h=>by cases h
 |(a,b)::m,h,n',o',hm=>by
  simp only[P1,aGV,aGd] at h;rcases aFN.1 hm with j|j
  .cases j;exact h.1
  exact XI h.2 n' o' j
def jl {np:Nat}: ∀{m:pU},xE np m=true->∀{n o:Nat},(n,o)∈m->AL m n=some o/\(n<np->o=n)
 |[],_,_,_,h=>by cases h
 |(a,b)::m,z,n,o,h=>by
  simp only[xE,aFL,aF2,aGU,aFI] at z;obtain⟨⟨j,E⟩,h3⟩:=z;simp only[AL];rcases aFN.1 h with h4|h4
  .cases h4;rw[aFz rfl];exact⟨rfl,fun D=>by rcases j with j|j<;>omega⟩
  have D:=XI E n o h4;rw[aFA (Ne.symm D.1)];exact jl h3 h4
def BD: ∀{m:pU}{k j:Nat},wH m k=some j->(j,k)∈m
 |[],_,_,h=>by cases h
 |(a,b)::m,k,j,h=>by
  simp only[wH] at h;split at h
  .rename_i e;subst e;simp only[aFy] at h;subst h;exact aFT
  exact aFK _ (BD h)
def zU {g:Gh}{np:Nat}{m:pU}(E:xE np m=true) {n o:Nat}(h:(n,o)∈m):(uJ g np m).J n=g.J o/\(uJ g np m).cur n=g.cur o:=by
 obtain⟨D,z⟩:=jl E h;refine⟨?_,?_⟩
 .show (if n<np then g.J n else(AL m n).bind g.J)=_;by_cases j:n<np
  .rw[aFz j,z j]
  rw[aFA j,D];rfl
 funext q;show (if n<np then g.cur n q else(AL m n).bind fun o=>g.cur o q)=_;by_cases j:n<np
 .rw[aFz j,z j]
 rw[aFA j,D];rfl
def jm {g:Gh}{np:Nat}{m:pU}(D:xE np m=true): ∀(l l':pU) (vs:pW),yZ g l vs->CW m l=some l'->yZ (uJ g np m) l' vs
 |[],l',vs,h,hr=>by simp only[CW,aFy] at hr;subst hr;exact h
 |(i,o)::l,l',vs,⟨p,vs',F,E,h3⟩,hr=>by
  simp only[CW] at hr;cases hi:wH m i with
  |none=>rw[hi] at hr;cases z:CW m l<;>rw[z] at hr<;>cases hr
  |some j=>
   rw[hi] at hr;cases z:CW m l with
   |none=>rw[z] at hr;cases hr
   |some l2=>
    rw[z] at hr;simp only[CW.renCons,aFy] at hr;subst hr;exact⟨p,vs',by rw[(zU D (BD hi)).1];exact F,E,jm D l l2 vs' h3 z⟩
def a6b {m:pU}{u t:Ty}{x y:t.den}{o:Nat}{l:List u.den}(h:zS m t x=some y) (j:rE (.list u) t x o=some l):rE (.list u) t y o=some l:=
 ir (zS m) (fun _ _ _=>rfl) (fun _ _=>rfl) h j
def a6c {c n3 n4:Nat}{a b d:pY}{y:Nat×Nat×(Nat×Nat)×(Nat×Nat)}(h:fu c n3 n4 a b d=some y): ∃i k3 k4,a=some i/\b=some k3/\d=some k4/\y=(c,i,(k3,n3),(k4,n4)):=by
 unfold fu at h;split at h
 .exact⟨_,_,_,rfl,rfl,rfl,(aFE h).symm⟩
 cases h
def S2 {g:Gh}{w:q8}{np:Nat}{m:pU}(E:xE np m=true): ∀{t:Ty}{x y:t.den}{cs:pW},Rd g w t x cs->zS m t x=some y->Rd (uJ g np m) w t y cs
 | .bool,_,_,_,r,h=>by cases h;exact r
 | .int _,_,_,_,r,h=>by cases h;exact r
 | .str,_,_,_,r,h=>by cases h;exact r
 | .unit,_,_,_,r,h=>by cases h;exact r
 | .list t,x,y,_,r,h=>by
  simp only[zS] at h;split at h
  .rename_i hp;cases h;exact wC (g:=g) (g':=uJ g np m) rfl (t:= .list t) (by simpa[Ty.pure] using hp) r
  .cases h
 | .ref,none,y,_,r,h=>by cases h;exact r
 | .ref,some (i,o),y,_,⟨p,D,z⟩,h=>by
  simp only[zS,WM] at h;cases hi:wH m i with
  |none=>rw[hi] at h;cases h
  |some j=>
   rw[hi] at h;cases h;exact⟨p,by rw[(zU E (BD hi)).1];exact D,z⟩
 | .clo,none,y,_,r,h=>by cases h;exact r
 | .clo,some (f,l),y,_,⟨vs,D,z⟩,h=>by
  simp only[zS,Lb] at h;cases hi:CW m l with
  |none=>rw[hi] at h;cases h
  |some l'=>
   rw[hi] at h;cases h;exact⟨vs,jm E l l' vs D hi,z⟩
 | .fn,_,_,_,r,h=>by cases h;exact r
 | .rl _ _,none,y,_,r,h=>by cases h;exact r
 | .rl _ _,some (k,n),y,_,⟨v,D,z⟩,h=>by
  simp only[zS,Ld] at h;cases hi:wH m k with
  |none=>rw[hi] at h;cases h
  |some j=>
   rw[hi] at h;cases h;exact⟨v,by rw[(zU E (BD hi)).2];exact D,z⟩
 | .mref,none,y,_,r,h=>by cases h;exact r
 | .mref,some (i,o),y,_,⟨p,D,z⟩,h=>by
  simp only[zS,WM] at h;cases hi:wH m i with
  |none=>rw[hi] at h;cases h
  |some j=>
   rw[hi] at h;cases h;exact⟨p,by rw[(zU E (BD hi)).1];exact D,z⟩
 | .ap,(c,i,(k3,n3),(k4,n4)),y,_,r,h=>by
  simp only[zS,Lf] at h;obtain⟨i',k3',k4',e1,e2,e3,rfl⟩:=a6c h;exact iu (g:=g) (g':=uJ g np m) (fun _ _ h=>⟨h,rfl⟩) (fun p hp=>⟨p,by rw[(zU E (BD e1)).1];exact hp,rfl,rfl⟩) (fun v F=>by rw[(zU E (BD e2)).2];exact F) (fun v F=>by rw[(zU E (BD e3)).2];exact F) r
 | .mp,none,y,_,r,h=>by cases h;exact r
 | .mp,some i,y,_,⟨p,D,z⟩,h=>by
  simp only[zS,Lc] at h;cases hi:wH m i with
  |none=>rw[hi] at h;cases h
  |some j=>
   rw[hi] at h;cases h;exact⟨p,by rw[(zU E (BD hi)).1];exact D,z⟩
 | .pair a b,x,y,_,⟨c1,c2,e,r1,r2⟩,h=>by
  simp only[zS] at h;obtain⟨D,z⟩:=iq h;refine⟨c1,c2,e,?_,?_⟩
  .split at D
   .rename_i hp;exact(aFE D)▸wC (g:=g) (g':=uJ g np m) rfl hp r1
   exact S2 E r1 D
  split at z
  .rename_i hp;exact(aFE z)▸wC (g:=g) (g':=uJ g np m) rfl hp r2
  exact S2 E r2 z
def XJ {g:Gh}{w:q8}{np:Nat}{m:pU}(E:xE np m=true) {s:qK}{v:q9}(h:rS g w s v):rS (uJ g np m) w (AR m s) v:=by
 have caps: ∀(l l':pU) (vs:pW),yZ g l vs->CW m l=some l'->yZ (uJ g np m) l' vs:=jm E;unfold AR;split
 .rename_i k n k';cases hi:wH m k with
  |none=>exact⟨trivial,trivial⟩
  |some j=>
   obtain⟨D,z⟩:=h.1;exact⟨⟨by rw[(zU E (BD hi)).2];exact D,z⟩,trivial⟩
 .obtain D:=h.1;refine⟨?_,trivial⟩;rcases D with⟨D,_⟩ |⟨_,z⟩
  .cases D
  exact .inr ⟨rfl,z⟩
 .rename_i p k;obtain⟨i,o⟩:=p;simp only[Kz];cases hi:wH m i with
  |none=>exact⟨trivial,trivial⟩
  |some j=>
   simp only[Option.map_some,AR.refSlot];obtain⟨q,hq,F⟩:=xW h.1;exact⟨.inr ⟨rfl,q,by rw[(zU E (BD hi)).1];exact hq,by rw[F]⟩,trivial⟩
 .rename_i f l k;cases hl:CW m l with
  |none=>exact⟨trivial,trivial⟩
  |some l'=>
   simp only[AR.cloSlot];rcases h.1 with⟨D,_⟩ |⟨_,vs,z,h3⟩
   .cases D
   exact⟨.inr ⟨rfl,vs,caps l l' vs z hl,h3⟩,trivial⟩
 .rename_i i k;cases hi:wH m i with
  |none=>exact⟨trivial,trivial⟩
  |some j=>
   simp only[AR.mpSlot];rcases h.1 with⟨D,_⟩ |⟨_,p,z,h3⟩
   .cases D
   exact⟨.inr ⟨rfl,p,by rw[(zU E (BD hi)).1];exact z,h3⟩,trivial⟩
 .rename_i t x k _ _ _ _;split
  .rename_i hp;have F:tD (uJ g np m) w t x v:=h.1.imp (fun⟨a,cs,e,q⟩=>⟨a,cs,e,wC (g:=g) (g':=uJ g np m) rfl hp q⟩) (fun⟨a,q⟩=>⟨a,wC (g:=g) (g':=uJ g np m) rfl hp q⟩);refine⟨F,?_⟩;replace h:=Na h;generalize G:FY t k=k' at h|-;cases k' with
   |none=>trivial
   |some k=>
    simp only[La];cases K:wH m k with
    |none=>trivial
    |some j=>
     have z:=h.2;cases t with
     |list u=>
      show (uJ g np m).cur j _=_;rw[(zU E (BD K)).2];exact z
     |pair a b=>cases G
     |_=>exact z.elim
  cases I:zS m t x with
  |none=>exact⟨trivial,trivial⟩
  |some y=>
   simp only[AR.valSlot];exact⟨h.1.imp (fun⟨a,cs,e,q⟩=>⟨a,cs,e,S2 E q I⟩) (fun⟨a,q⟩=>⟨a,S2 E q I⟩),trivial⟩
 .rename_i t x k;split
  .rename_i hp;obtain⟨b,o,cs,D,z,h3,h4⟩:=h.1;exact⟨⟨b,o,cs,D,z,h3,wC (g:=g) (g':=uJ g np m) rfl hp h4⟩,trivial⟩
  exact⟨trivial,trivial⟩
 .exact⟨h.1,trivial⟩
 exact⟨trivial,trivial⟩
def Ov {q j:Nat}{x:Nat×Nat}: ∀{r:pU},x∈WN q j r->x=(q,j)\/x∈r
 |[],h=> .inl (aFR.1 h)
 |(a,b)::r,h=>by
  simp only[WN] at h;split at h
  .exact aFN.1 h
  rcases aFN.1 h with h|h
  .exact .inr (by rw[h];exact aFT)
  exact(Ov h).imp id (aFK _)
def XK {m:pU}: ∀{ts:pU}{q j:Nat},(q,j)∈MA m ts->∃k,(q,k)∈ts/\wH m k=some j
 |[],_,_,h=>by cases h
 |(a,b)::ts,q,j,h=>by
  simp only[MA] at h;cases hb:wH m b with
  |none=>
   rw[hb] at h;obtain⟨k,z,D⟩:=XK h;exact⟨k,aFK _ z,D⟩
  |some j'=>
   rw[hb] at h;simp only[MA.renTok1] at h;rcases Ov h with z|z
   .cases z;exact⟨b,aFT,hb⟩
   obtain⟨k,z,D⟩:=XK z;exact⟨k,aFK _ z,D⟩
def MQ {g:Gh}{w:q8}{np:Nat}{m:pU}(K:xE np m=true) {n o:Nat}(hm:(n,o)∈m) {b:Option qJ}(h: ∀c,b=some c->AT g w o c):
  AT (uJ g np m) w n (zT m b)/\∀bb oo,sH (uJ g np m) n (zT m b) bb oo->∃c,b=some c/\sH g o c bb oo:=by
 obtain⟨G,z⟩:=zU (g:=g) K hm;unfold zT;split
 .rename_i t x toks;split
  .rename_i hp;obtain⟨p,cs,E,D,h3,h4,I,M⟩:=h _ rfl;refine⟨⟨p,cs,by rw[G];exact E,wC (g:=g) (g':=uJ g np m) rfl hp D,h3,h4,I,fun q j F=>?_⟩,fun bb oo ⟨pp,e1,e2⟩=>⟨_,rfl,pp,by rw[G] at e1;exact e1,e2⟩⟩;obtain⟨k,k1,k2⟩:=XK F;obtain⟨u,l,v,g1,g2,g3⟩:=M q k k1;exact⟨u,l,v,g1,g2,by rw[(zU K (BD k2)).2];exact g3⟩
  cases O:zS m t x with
  |none=>exact⟨trivial,fun _ _ h=>h.elim⟩
  |some y=>
   obtain⟨p,cs,E,D,h3,h4,I,M⟩:=h _ rfl;simp only[fv];refine⟨⟨p,cs,by rw[G];exact E,S2 K D O,h3,h4,I,fun q j F=>?_⟩,fun bb oo ⟨pp,e1,e2⟩=>⟨_,rfl,pp,by rw[G] at e1;exact e1,e2⟩⟩;obtain⟨k,k1,k2⟩:=XK F;obtain⟨u,l,v,g1,g2,g3⟩:=M q k k1;exact⟨u,l,v,a6b O g1,g2,by rw[(zU K (BD k2)).2];exact g3⟩
 .rename_i e c k;obtain⟨v,xs,E,D,h3,h4⟩:=h _ rfl;exact⟨⟨v,xs,by rw[z];exact E,D,fun q hq=>by rw[z];exact h3 q hq,h4⟩,fun bb oo ⟨v',e1,e2⟩=>⟨_,rfl,v',by rw[z] at e1;exact e1,e2⟩⟩
 .rename_i e t l n;split
  .rename_i hp;obtain⟨h0,v,xs,E,D,I,h3,h4⟩:=h _ rfl;exact⟨⟨h0,v,xs,by rw[z];exact E,D,CX (fun _ _ h=>wC (g:=g) (g':=uJ g np m) rfl hp h) I,fun q hq=>by rw[z];exact h3 q hq,h4⟩,fun bb oo ⟨v',e1,e2⟩=>⟨_,rfl,v',by rw[z] at e1;exact e1,e2⟩⟩
  exact⟨trivial,fun _ _ h=>h.elim⟩
 .rename_i k v l;split
  .rename_i hp;rw[aFL] at hp;obtain⟨p,es,cl,E,h0,D,h3,h4⟩:=h _ rfl;exact⟨⟨p,es,cl,by rw[G];exact E,h0,D,RM (g:=g) (g':=uJ g np m) rfl hp.1 hp.2 h3,h4⟩,fun bb oo ⟨pp,e1,e2⟩=>⟨_,rfl,pp,by rw[G] at e1;exact e1,e2⟩⟩
  exact⟨trivial,fun _ _ h=>h.elim⟩
 .obtain⟨p,E,h0,D,h4⟩:=h _ rfl;exact⟨⟨p,by rw[G];exact E,h0,D,h4⟩,fun bb oo ⟨pp,e1,e2⟩=>⟨_,rfl,pp,by rw[G] at e1;exact e1,e2⟩⟩
 exact⟨trivial,fun _ _ h=>h.elim⟩
def K0 {m:pU}{H:sF}: ∀{l:pU}{n:Nat}{b:qJ},qO (WO m H l) n=some b->∃o,(n,o)∈l/\b=zT m (qO H o)
 |[],_,_,h=>by cases h
 |(a,c)::l,n,b,h=>by
  simp only[WO,qO] at h;split at h
  .rename_i e;subst e;exact⟨c,aFT,(aFE h).symm⟩
  obtain⟨o,z,j⟩:=K0 h;exact⟨o,aFK _ z,j⟩
def Ow {m:pU}{env:List (Nat×qK)}: ∀(l:pZ) (t:Nat),lk (RG m env l) t=(.any,none)\/lk (RG m env l) t=AR m (lk env t)
 |[],_=> .inl rfl
 |a::l,t=>by
  simp only[RG,lk];split
  .rename_i e;subst e;exact .inr rfl
  exact Ow l t
def Ox: ∀{m:pU}{n o:Nat},(n,o)∈m->n<WP m
 |(a,b)::m,n,o,h=>by
  simp only[WP];rcases aFN.1 h with j|j
  .cases j;omega
  have:=Ox j;omega
def jn: ∀{m:pU}{n o:Nat},AL m n=some o->(n,o)∈m
 |[],_,_,h=>by cases h
 |(a,b)::m,n,o,h=>by
  simp only[AL] at h;split at h
  .rename_i e;subst e;simp only[aFy] at h;subst h;exact aFT
  exact aFK _ (jn h)
def jo {B:Nat}{A:Nat->Nat->Prop}{L:List qJ}{g0 g:Gh}{w0 w:q8}{s:St}{a:Act}(h:vB B g w s a) (I:tJ A L g0 w0 g w s.H) (O:s.np=L.length) (k:wG) (F:xE s.np k.ids=true):
  vB B (uJ g s.np k.ids) w (s.keep k) a/\tJ A L g0 w0 (uJ g s.np k.ids) w (s.keep k).H/\(s.keep k).np=L.length/\(s.keep k).N=s.N:=by
 unfold St.keep;rw[F];refine⟨⟨fun t=>?_,⟨fun i b hb=>?_,fun i j bi bj b o Q E D o1 o2=>?_,h.heap.sl,h.heap.tab.1,fun i b bb oo hb ho=>by
   obtain⟨o,E,rfl⟩:=K0 hb;obtain⟨c1,e1,o1'⟩:=(MQ F E fun c G=>h.heap.blk o c G).2 bb oo ho;exact h.heap.tab.2 o c1 bb oo e1 o1'⟩,h.size,fun i hi=>?_,h.def_,Nat.le_max_left _ _⟩,⟨I.shut,I.fr,fun i blk b o hb ho=>?_,fun i p hi hp=>?_,fun i hi=>?_,fun i u y us hi hb=>?_,fun i n u hi V=>(by
   show (if i<s.np then g.cur i n else _)=_;rw[aFz pP];exact I.cur i n u hi V)⟩,O,rfl⟩
 .rcases Ow (m:=k.ids) (env:=s.env) k.slots t with e|e
  .exact⟨by rw[show lk (RH s k true).env t=_ from e];trivial,by rw[show lk (RH s k true).env t=_ from e];trivial⟩
  have:=XJ F (h.env t);rw[show lk (RH s k true).env t=_ from e];exact this
 .obtain⟨o,E,rfl⟩:=K0 hb;exact(MQ F E fun c G=>h.heap.blk o c G).1
 .obtain⟨p,k1,rfl⟩:=K0 E;obtain⟨q,k2,rfl⟩:=K0 D;obtain⟨c1,e1,o1'⟩:=(MQ F k1 fun c G=>h.heap.blk p c G).2 b o o1;obtain⟨c2,e2,o2'⟩:=(MQ F k2 fun c G=>h.heap.blk q c G).2 b o o2;refine h.heap.dis p q c1 c2 b o (fun e=>?_) e1 e2 o1' o2';subst e;have inj: ∀{m:pU},xE s.np m=true->∀{i j o:Nat},(i,o)∈m->(j,o)∈m->i=j:=by
   intro m
   induction m with
   |nil=>intro _ _ _ _ h;cases h
   |cons z m ih=>
    obtain⟨z1,z2⟩:=z;intro F i j o E D;simp only[xE,aFL,aF2] at F;rcases aFN.1 E with E|E<;>rcases aFN.1 D with D|D
    .cases E;cases D;rfl
    .cases E;exact absurd rfl (XI F.1.2 _ _ D).2
    .cases D;exact absurd rfl (XI F.1.2 _ _ E).2
    exact ih F.2 E D
  exact Q (inj F k1 k2)
 .have M: ¬i<s.np:=by have:=aGA (Nat.le_max_left _ _) hi;omega
  have K:AL k.ids i=none:=by
   cases ho:AL k.ids i with
   |none=>rfl
   |some o=>
    have:=Ox (jn ho);have:=aGA (Nat.le_max_right _ _) hi;omega
  refine⟨?_,fun n=>?_⟩
  .show (if i<s.np then g.J i else(AL k.ids i).bind g.J)=none;rw[aFA M,K];rfl
  show (if i<s.np then g.cur i n else(AL k.ids i).bind fun o=>g.cur o n)=none;rw[aFA M,K];rfl
 .obtain⟨p,E,rfl⟩:=K0 hb;obtain⟨c,e1,e2⟩:=(MQ F E fun c G=>h.heap.blk p c G).2 b o ho;exact I.perm p c b o e1 e2
 .show (if i<s.np then g.J i else _)=_;rw[aFz pP];exact I.J i p hi hp
 .rcases I.live i hi with⟨p,hp⟩ |⟨n,v,U⟩
  .left;refine⟨p,?_⟩;show (if i<s.np then g.J i else _)=_;rw[aFz pP];exact hp
  right;refine⟨n,v,?_⟩;show (if i<s.np then g.cur i n else _)=_;rw[aFz pP];exact U
 obtain⟨o,E,D⟩:=K0 hb;have ho:=(jl F E).2 pP;subst ho;unfold zT at D;split at D
 .rename_i t x toks heq;split at D
  .simp only[qJ.cells.injEq] at D;obtain⟨rfl,_⟩:=D;exact I.ty o u x toks hi heq
  cases R:zS k.ids t x with
  |none=>rw[R] at D;cases D
  |some y=>
   rw[R] at D;simp only[fv,qJ.cells.injEq] at D;obtain⟨rfl,_⟩:=D;exact I.ty o u x toks hi heq
 .cases D
 .split at D<;>cases D
 .split at D<;>cases D
 .cases D
 cases D
def K1 {B:Nat}{A:Nat->Nat->Prop}{L:List qJ}{g0 g:Gh}{w0 w:q8}{s:St}{a:Act}(h:vB B g w s a) (z:tJ A L g0 w0 g w s.H) (D:s.np=L.length) (k:wG):
  ∃g',vB B g' w (s.keep k) a/\tJ A L g0 w0 g' w (s.keep k).H/\(s.keep k).np=L.length/\(s.keep k).N=s.N:=by
 unfold St.keep;cases E:xE s.np k.ids with
 |false=>
  refine⟨g,⟨fun t=>⟨trivial,trivial⟩,⟨(fun i b h=>by cases h),(fun i j bi bj b o _ h=>by cases h),h.heap.sl,h.heap.tab.1,(fun i b bb oo h=>by cases h)⟩,h.size,h.nb,h.def_,h.np⟩,⟨z.shut,z.fr,(fun i blk b o h=>by cases h),z.J,z.live,(fun i u y us _ h=>by cases h),z.cur⟩,D,rfl⟩
 |true=>
  have:=jo h z D k E;unfold St.keep at this;rw[E] at this;exact⟨_,this⟩
end Go.Proofs.YtcpbaddnmpeipaaGreatDoor.Vc
