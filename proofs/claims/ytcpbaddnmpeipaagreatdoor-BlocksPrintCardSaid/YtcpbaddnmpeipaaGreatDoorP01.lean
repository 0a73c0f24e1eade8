/- Packed by a program of mine (wip/tools/pack.py): the same texts with short names and few blanks. -/
import Derived.ChangeKeysEq
import Derived.Laws.BytesArg
import Derived.Laws.StructEq
import Derived.Lib.AppendStr
import Derived.MapKept
import Derived.RangeFuncLeaves
import Derived.RangeFuncNested
import Derived.WalkSpells
import Derived.Test.YtcpbaddnmpeipaaGreatDoorP00
set_option linter.defProp false
set_option linter.unusedVariables false
set_option linter.unusedSimpArgs false
set_option linter.unusedSectionVars false
set_option maxRecDepth 100000
set_option maxHeartbeats 4000000
namespace Go.Proofs.YtcpbaddnmpeipaaGreatDoor.Vc
open Go.RowKit
def wT (g:Gh) (base:Nat) (e:qP):Prop:= ∀i,i∈qH e.upd->base<=i->g.J i=none/\∀n,g.cur i n=none
section
variable {P:Program}{o:Oper}{a:Act}{g:Gh}{w:pT}{H:rZ}{T:sG}(hT:wA P T) (hH:sA g w H)
include hT hH
theorem aAh {x:Operand}(ho:o.op= .move x\/o.op= .assign x) {sx:qC}(hx:rN g w sx (a.eval x)) {base:Nat}{e:qP}(hr:WG base (rS T o.type) sx=some e) (hf:wT g base e):rG P o a g w H e:=by
 have hrun:(execOp a.eval o).run P w= .ok (.value (a.eval x)) w:=by rcases ho with ho|ho<;>simp [execOp,ho]
 generalize hst:rS T o.type=ot at hr;unfold WG at hr;split at hr
 .cases hr;have hv:a.eval x= .slice none 0 0:=hx.1;have hfr:=(hf base (by simp [qH]) (aSl _)).2;refine rG.value (v:= .slice none 0 0) (by rw[hrun,hv]) (rJ.row (v:= .slice none 0 0) (xs:=[]) hH rfl (World.ownsRow_nil w 0 _ _) rfl (fun m _=>hfr m) (fun u hu=>by rw[hfr] at hu;cases hu) (.inl ⟨rfl,rfl,rfl,aSl _,fun _ _ _=>rfl⟩) (fun _ _ _=>rfl) (fun b hb=>by cases hb) (fun b hb=>by cases hb) ⟨⟨by simp [Gh.tok],.inl ⟨rfl,rfl⟩⟩,trivial⟩)
 .cases hr;have hv:a.eval x= .slice none 0 0:=hx.1;refine rG.value (v:= .slice none 0 0) (by rw[hrun,hv]) (rJ.nilTok hH rfl (hf base (by simp [qH]) (aSl _)).2)
 .cases hr
 cases hr;exact rG.value hrun (.pure hH hx)
theorem aJr {u:Ty}{y:List u.den}{k:pR}{v:pU}{cs:pP}(h:BA g (.list u) y v k) (hc:cs=[v]):E6 g (.list u) y cs (wJ k 0):=by
 intro q kk hm;cases k with
 |none=>simp [wJ] at hm
 |some k=>
  simp only[wJ,aSd,aSp] at hm;obtain⟨rfl,rfl⟩:=hm;exact⟨u,y,v,by unfold qZ;simp [tJ],by rw[hc];rfl,h⟩
omit hT hH in
theorem YF {w:pT}: ∀(ls:List (Nat×TypeId×Nat)) (i:Nat) (g:Gh) (H:rZ),sA g w H->(∀j,i<=j->j<i+ls.length->∀n,g.cur j n=none)->
  ∃g1,rJ g w H ⟨[],(.any,none),BQ ls i,[]⟩ g1 w undef/\g1.J=g.J/\(∀o k,(o,k)∈AG ls i->g1.cur k 0=some (.slice none 0 0))/\(∀k,k<i->g1.cur k=g.cur k)
 |[],i,g,H,hH,_=>⟨g,.pure hH ⟨trivial,trivial⟩,rfl,fun _ _ h=>by simp [AG] at h,fun _ _=>rfl⟩
 |(o,e,c)::r,i,g,H,hH,hf=>by
  have e1:=rJ.nilTok (side:=[]) (d:= .val (.list .bool) []) (rds:=[]) (base:=i) (e:=e) (c:=c) (u:= .bool) hH rfl (hf i (aSl _) pK);have hc1: ∀k n,k≠i->(g.tok i 0 (.slice none 0 0)).cur k n=g.cur k n:=fun k n hk=>by
   show (if k=i/\n=0 then _ else _)=_;rw[aR4 (fun h=>hk h.1)]
  obtain⟨g1,k1,k2,k3,k4⟩:=YF r (i+1) (g.tok i 0 (.slice none 0 0)) (qT [(i,qB.grow e c 0)] H) e1.heap (fun j h1 h2 n=>by rw[hc1 j n pI];exact hf j pI (by simp only[aR1];omega) n);refine⟨g1,e1.trans k1,k2.trans rfl,fun o' k hm=>?_,fun k hk=>?_⟩
  .simp only[AG,aSa,aSp] at hm;rcases hm with⟨rfl,rfl⟩ |hm
   .rw[k4 _ pI];show (if k=k/\0=0 then _ else _)=_;simp
   exact k3 o' k hm
  rw[k4 k pI];funext n;exact hc1 k n pI
omit hT hH in
theorem YG: ∀{ls:List (Nat×TypeId×Nat)}{i o k:Nat},(o,k)∈AG ls i->∃q∈ls,q.1=o
 |[],_,_,_,h=>by simp [AG] at h
 |(o',e,c)::r,i,o,k,h=>by
  simp only[AG,aSa,aSp] at h;rcases h with⟨h1,_⟩ |h
  .exact⟨(o',e,c),by simp,h1.symm⟩
  obtain⟨q,h1,h2⟩:=YG h;exact⟨q,by simp [h1],h2⟩
omit hT hH in
theorem YH {t:Ty}: ∀{ls:List (Nat×TypeId×Nat)},CU t ls=true->∀q∈ls,CT t q.1=true
 |[],_,_,h=>by cases h
 |(o,e,c)::r,h,q,hq=>by
  simp only[CU,aSj] at h;rcases aSa.1 hq with rfl|hq
  .exact h.1
  exact YH h.2 q hq
omit hT hH in
theorem O3: ∀(ls:List (Nat×TypeId×Nat)) (i j:Nat),j∈qH (BQ ls i)↔i<=j/\j<i+ls.length
 |[],i,j=>by simp only[BQ,qH,aTa,aSe,false_iff];omega
 |(o,e,c)::r,i,j=>by
  simp only[BQ,AM,O3 r (i+1) j,qH,aSd,aR1];omega
omit hT hH in
theorem YI {w:pT}: ∀(R:List (Nat×Nat×Ty)) (i:Nat) (g:Gh) (H:rZ),sA g w H->(∀j,i<=j->j<i+R.length->∀n,g.cur j n=none)->
  ∃g1,rJ g w H ⟨[],(.any,none),CV R i,[]⟩ g1 w undef/\g1.J=g.J/\(∀j,j<R.length->g1.cur (i+j) 0=some (.slice none 0 0))/\(∀k,k<i->g1.cur k=g.cur k)
 |[],i,g,H,hH,_=>⟨g,.pure hH ⟨trivial,trivial⟩,rfl,fun _ h=>by simp at h,fun _ _=>rfl⟩
 |(o,e,u)::r,i,g,H,hH,hf=>by
  have hfr:=hf i (aSl _) pK;have e1:=rJ.row (side:=[]) (rds:=[]) (k:=i) (e:=e) (t:=u) (l:=[]) (n:=0) (s:=(.any,none)) (val:=undef) (v:= .slice none 0 0) (xs:=[]) hH rfl (World.ownsRow_nil w 0 _ _) rfl (fun m _=>hfr m) (fun u hu=>by rw[hfr] at hu;cases hu) (.inl ⟨rfl,rfl,rfl,aSl _,fun _ _ _=>rfl⟩) (fun _ _ _=>rfl) (fun b hb=>by cases hb) (fun b hb=>by cases hb) ⟨trivial,trivial⟩;have hc1: ∀k n,k≠i->(g.tok i 0 (.slice none 0 0)).cur k n=g.cur k n:=fun k n hk=>by
   show (if k=i/\n=0 then _ else _)=_;rw[aR4 (fun h=>hk h.1)]
  obtain⟨g1,k1,k2,k3,k4⟩:=YI r (i+1) (g.tok i 0 (.slice none 0 0)) (qT [(i,qB.row e u [] 0)] H) e1.heap (fun j h1 h2 n=>by rw[hc1 j n pI];exact hf j pI (by simp only[aR1];omega) n);refine⟨g1,e1.trans k1,k2.trans rfl,fun j hj=>?_,fun k hk=>?_⟩
  .cases j with
   |zero=>
    rw[aSM,k4 _ pI];show (if i=i/\0=0 then _ else _)=_;simp
   |succ j=>
    have:=k3 j (by simpa using hj);rwa [show i+1+j=i+(j+1) by omega] at this
  rw[k4 k pI];funext n;exact hc1 k n pI
omit hT hH in
theorem T5: ∀(R:List (Nat×Nat×Ty)) (i j:Nat),j∈qH (CV R i)↔i<=j/\j<i+R.length
 |[],i,j=>by simp only[CV,qH,aTa,aSe,false_iff];omega
 |(o,e,c)::r,i,j=>by
  simp only[CV,AM,T5 r (i+1) j,qH,aSd,aR1];omega
omit hT hH in
theorem YJ {α:Type}: ∀l:List α,N9 l=l.length
 |[]=>rfl
 |_::l=>by simp only[N9,YJ l,aR1]
omit hT hH in
theorem aAi {g:Gh}{w:pT}: ∀{t:Ty}{x:t.den}{cs:pP}{o:Nat},Rd g w t x cs->∀q∈xY t x o,o<=q.1/\cs[q.1-o]? =some (.slice none 0 0):=by
 intro t
 induction t with
 |pair a b iha ihb=>
  intro x cs o r q hq;obtain⟨c1,c2,rfl,r1,r2⟩:=r;simp only[xY,E7] at hq;have hl:=sJ r1;rcases hq with hq|hq
  .obtain⟨h1,h2⟩:=iha r1 q hq;exact⟨h1,by rw[aSc (aR7.1 h2).1];exact h2⟩
  .obtain⟨h1,h2⟩:=ihb r2 q hq;refine⟨pI,?_⟩;rw[aR5 pI,hl,show q.1-o-a.cells=q.1- (o+a.cells) by omega];exact h2
 |rl e u=>
  intro x cs o r q hq;cases x with
  |none=>
   simp only[xY,WI,aSd] at hq;subst hq;refine⟨aSl _,?_⟩;rw[show cs=[.slice none 0 0] from r];simp
  |some z=>simp [xY,WI] at hq
 |_=>intro x cs o r q hq;simp [xY] at hq
omit hT hH in
theorem aJs {g:Gh}{w:pT}: ∀{t:Ty}{x:t.den}{cs:pP}{o:Nat},Rd g w t x cs->∀q∈DT t x o,o<=q/\cs[q-o]? =some (.pointer none):=by
 intro t
 induction t with
 |pair a b iha ihb=>
  intro x cs o r q hq;obtain⟨c1,c2,rfl,r1,r2⟩:=r;simp only[DT,E7] at hq;have hl:=sJ r1;rcases hq with hq|hq
  .obtain⟨h1,h2⟩:=iha r1 q hq;exact⟨h1,by rw[aSc (aR7.1 h2).1];exact h2⟩
  .obtain⟨h1,h2⟩:=ihb r2 q hq;refine⟨pI,?_⟩;rw[aR5 pI,hl,show q-o-a.cells=q- (o+a.cells) by omega];exact h2
 |mref=>
  intro x cs o r q hq;cases x with
  |none=>
   simp only[DT,WJ,aSd] at hq;subst hq;refine⟨aSl _,?_⟩;rw[show cs=[.pointer none] from r];simp
  |some z=>simp [DT,WJ] at hq
 |_=>intro x cs o r q hq;simp [DT] at hq
omit hT hH in
theorem YK {g:Gh}{w:pT}{t u:Ty}{x z:t.den}{y:u.den}{cs:pP}{o:Nat}{v:pU}(h:sD u y t x o=some z) (hy:Rd g w u y [v]) (hR:Rd g w t x cs) (hv:cs[o]? =some v):Rd g w t z cs:=by
 obtain⟨c1,c2,c3,rfl,rfl,h2,h3⟩:=NW hy hR h;have hu:=sJ hy;simp only[aS5] at hu;rw[<-hu] at h2;obtain⟨v',rfl⟩:=aSV.1 h2;have:(c1++[v']++c3)[c1.length]? =some v':=by simp
 rw[this] at hv;obtain rfl:=aRY hv;exact h3
omit hT hH in
theorem YL {g:Gh}{w:pT}{t:Ty}{cs:pP}: ∀{R:List (Nat×Nat×Ty)}{i:Nat}{x z:t.den},zW t i R (some x)=some z->Rd g w t x cs->(∀q∈R,cs[q.1]? =some (.slice none 0 0))->(∀j,j<R.length->g.cur (i+j) 0=some (.slice none 0 0))->Rd g w t z cs
 |[],i,x,z,h,hR,_,_=>by simp only[zW,aRV] at h;exact h▸hR
 |(o,e,u)::r,i,x,z,h,hR,hc,hg=>by
  simp only[zW] at h;cases hs:sD (.rl e u) (some (i,0)) t x o with
  |none=>rw[hs] at h;cases r<;>simp [zW] at h
  |some x'=>
   rw[hs] at h;refine YL h (YK (v:= .slice none 0 0) hs ⟨_,by simpa using hg 0 pK,rfl,.inl ⟨rfl,rfl⟩⟩ hR (hc _ aSf)) (fun q hq=>hc q (aSb _ hq)) (fun j hj=>?_);have:=hg (j+1) (by simpa using hj);rwa [show i+(j+1)=i+1+j by omega] at this
omit hT hH in
theorem aAj {g:Gh}{w:pT}{t:Ty}{cs:pP}{i:Nat}{p:Pl}(hp:g.J i=some p) (hp2:p.2=0): ∀{M:pS}{x z:t.den},FL t i M (some x)=some z->Rd g w t x cs->(∀q∈M,cs[q]? =some (.pointer none)/\XU p.3 q)->Rd g w t z cs
 |[],x,z,h,hR,_=>by simp only[FL,aRV] at h;exact h▸hR
 |q::r,x,z,h,hR,hc=>by
  simp only[FL] at h;cases hs:sD .mref (some (i,q)) t x q with
  |none=>rw[hs] at h;cases r<;>simp [FL] at h
  |some x'=>
   rw[hs] at h;exact aAj hp hp2 h (YK (v:= .pointer none) hs ⟨p,hp,by rw[hp2,aSu];exact(hc _ aSf).2,.inl rfl⟩ hR (hc _ aSf).1) (fun q hq=>hc q (aSb _ hq))
omit hT hH in
theorem T6 {k:Nat}: ∀{ls:List (Nat×TypeId×Nat)}{q:Nat×TypeId×Nat},q∈AH k ls->q.1+1≠k
 |[],_,h=>by cases h
 |(o,e,c)::r,q,h=>by
  simp only[AH] at h;split at h
  .exact T6 h
  rename_i hne;rcases aSa.1 h with rfl|h
  .exact hne
  exact T6 h
omit hT in
theorem YM {t:Ty}{y:t.den}{ls:List (Nat×TypeId×Nat)}{base:Nat}{e:qP}{cs:pP}{el:TypeId}(hr:NA base el t y ls (CU t ls)=some e) (hf:wT g base e) (hR:Rd g w t y cs) (hn: ∀q∈ls,∃k,wR k t 0 cs/\q.1+1≠k):
  ∃g',rJ g w H e g' (w.alloc (.cells cs.toArray el)) (.pointer (some ⟨w.heap.size,0,none⟩)):=by
 cases hl:CU t ls with
 |false=>rw[hl] at hr;cases hr
 |true=>
  rw[hl] at hr;simp only[NA,YJ] at hr;have cR:=fun q hq=>aAi (o:=0) hR q hq;have cM: ∀q∈RE el t y,cs[q]? =some (.pointer none)/\XU (some (el,cs.length)) q:=by
   intro q hq;unfold RE at hq;split at hq
   .rename_i hb;have h0:=fun q hq=>aJs (o:=0) hR q hq;have hl:=sJ hR;generalize DT t y 0=M at hq h0;rw[<-hl] at hq;unfold a9f at hq;split at hq
    .rename_i h2;simp only[aSd] at hq;subst hq;exact⟨by simpa using(h0 0 pK).2,rfl,el,hb,by rw[h2]⟩
    cases hq
   cases hq
  generalize xY t y 0=R at hr cR;generalize RE el t y=M at hr cM;cases hz1:zW t (base+1+ls.length) R (some y) with
  |none=>
   rw[hz1] at hr;have:FL t base M none=none:=by cases M<;>rfl
   rw[this] at hr;cases hr
  |some z1=>
   rw[hz1] at hr;cases hz2:FL t base M (some z1) with
   |none=>rw[hz2] at hr;cases hr
   |some z=>
    rw[hz2] at hr;simp only[a9g,YJ] at hr;obtain rfl:=(aRY hr);have hfr: ∀j,base+1<=j->j<base+1+ls.length+R.length->g.J j=none/\∀n,g.cur j n=none:=fun j h1 h2=>hf j (by
     simp only[qH,aSa];right;rw[AM];by_cases h3:j<base+1+ls.length
     .exact .inr ((O3 ls (base+1) j).2 ⟨h1,h3⟩)
     exact .inl ((T5 R (base+1+ls.length) j).2 ⟨pI,h2⟩)) pI
    have hf0:=hf base (by simp [qH]) (aSl _);obtain⟨g1,k1,k2,k3,k4⟩:=YF ls (base+1) g H hH (fun j h1 h2=>(hfr j h1 pI).2);have hfr1: ∀j,base+1+ls.length<=j->j<base+1+ls.length+R.length->∀n,g1.cur j n=none:=by
     intro j h1 h2 n;have:=(k1.gho j (by simp only;rw[O3];omega)).2;rw[this];exact(hfr j pI h2).2 n
    obtain⟨g2,m1,m2,m3,m4⟩:=YI R (base+1+ls.length) g1 _ k1.heap hfr1;have hJ:(g2.var base w.heap.size (some (el,cs.length))).J base=some ⟨w.heap.size,0,some (el,cs.length)⟩:=by simp [Gh.var]
    have hle:Le g w (g2.var base w.heap.size (some (el,cs.length))) w:=by
     refine((k1.le.trans m1.le).trans ⟨fun _ _ h=>h,fun _ _ _=>rfl,fun i p h=>?_,fun _ _ _ h=>h⟩);show (if i=base then _ else _)=_;rw[aR4 (fun e1=>by rw[e1,m2,k2,hf0.1] at h;cases h)];exact h
    have hRz:Rd (g2.var base w.heap.size (some (el,cs.length))) w t z cs:=aAj hJ rfl hz2 (YL hz1 (vK hle hR) (fun q hq=>by simpa using(cR q hq).2) (fun j hj=>m3 j hj)) cM;have htk:E6 g2 t z cs (AG ls (base+1)):=by
     intro o k hm;obtain⟨q,hq,rfl⟩:=YG hm;obtain⟨kx,hx1,hx2⟩:=hn q hq;obtain⟨u,h1,h2⟩:=a91 hx1 hRz (YH hl q hq) pI;exact⟨u,[],_,h1,h2,m1.le.cur _ _ _ (k3 _ _ hm)⟩
    have e3:=rJ.newVarJ (side:=[]) (rds:=[]) (base:=base) (toks:=AG ls (base+1)) (e:=el) m1.heap hRz htk (by rw[m2,k2];exact hf0.1) (by rw[m4 base pI,k4 base pI];exact funext hf0.2);have e4:=rJ.trans (side:=[]) (rds:=[]) k1 m1;exact⟨_,rJ.trans (side:=[]) (rds:=[]) e4 (e3.congrH (H':=qT (qT (CV R (base+1+ls.length)) (BQ ls (base+1))) H) (by simp only[IM]))⟩
theorem YN {t:Ty}{y:t.den}{k:pR}{v:pU}(h:rN g w (.val t y,k) v):sR g w t y v/\BA g t y v k:=by
 refine⟨h.1,?_⟩;cases k with
 |none=>trivial
 |some k=>exact h.2
theorem aJt {t:TypeId}{x:Operand}(ho:o.op= .box t x) {sx:qC}(hx:rN g w sx (a.eval x)) {base:Nat}{e:qP}(hr:WK base t (rS T t) sx=some e) (hf:wT g base e):rG P o a g w H e:=by
 generalize hst:rS T t=ot at hr;have hrun:(execOp a.eval o).run P w= .ok (.value (.pointer (some ⟨w.heap.size,0,none⟩))) (w.alloc (.cells (a.eval x).cells.toList.toArray t)):=by
  unfold execOp;rw[ho];simp only[Instr.box,Go.newVar,newRow,aR6,run_newObj,aR0,aSm,aTc];rfl
 have one: ∀{u:Ty}{y:u.den},sR g w u y (a.eval x)->u.isRow=false->(a.eval x).cells.toList=[a.eval x]:=fun hv hrow=>by
  have h1:=yJ (wB hrow hv) _ (aSd.2 rfl);cases h:a.eval x<;>first|rfl|(rw[h] at h1;simp [Value.oneCell'] at h1)
 unfold WK at hr;split at hr
 .rename_i ti u y k;split at hr
  .obtain⟨hv,hk⟩:=YN hT hH hx;have hR:=CY hv;unfold a9h at hr;split at hr
   .rename_i a' b' y' k' _;have hn:wR k' (.pair a' b') 0 (a.eval x).cells.toList:=hk;obtain⟨g',h⟩:=YM (el:=t) hH hr hf hR (fun q hq=>⟨k',hn,T6 hq⟩);exact rG.value hrun h
   .rename_i u' y' k';cases hr;have hfr:=hf base (by simp [qH]) (aSl _);exact rG.value hrun (rJ.newVar hH hR (aJr hT hH hk (one hv rfl)) hfr.1 (funext hfr.2))
   cases hr;have hfr:=hf base (by simp [qH]) (aSl _);exact rG.value hrun (rJ.newVar hH hR (fun q k hm=>by cases hm) hfr.1 (funext hfr.2))
  cases hr
 cases hr
theorem aAk {t:TypeId}(run: ∀ti,rS T t=some ti->(execOp a.eval o).run P w= .ok (.value (.pointer (some ⟨w.heap.size,0,none⟩))) (w.alloc (.cells (tM ti.ty).toArray t))) {base:Nat}{e:qP}(hr:NB base t (rS T t)=some e) (hf:wT g base e):rG P o a g w H e:=by
 generalize hst:rS T t=ot at hr;unfold NB at hr;split at hr
 .rename_i u el by' ar ls_;cases hr;have hf0:=hf base (by simp [qH]) (aSl _);have hf1:=hf (base+1) (by simp [qH]) pI;have hty:=sL hT hst;have e1:=rJ.nilTok (side:=[]) (d:= .val (.list u) []) (rds:=[]) (base:=base+1) (e:=el) (c:=u.cells) (u:=u) hH rfl hf1.2;have hH1:=e1.heap;have htk:E6 (g.tok (base+1) 0 (.slice none 0 0)) (.list u) [] [.slice none 0 0] [(0,base+1)]:=by
   intro q kk hm;simp only[aSd,aSp] at hm;obtain⟨rfl,rfl⟩:=hm;exact⟨u,[],.slice none 0 0,by unfold qZ;simp [tJ],rfl,by simp [Gh.tok]⟩
  have e2:=rJ.newVar (side:=[]) (rds:=[]) (base:=base) (toks:=[(0,base+1)]) (e:=t) hH1 (BT (g.tok (base+1) 0 (.slice none 0 0)) w (.list u)) htk hf0.1 (by
   funext n;show (if base=base+1/\n=0 then _ else _)=_;rw[aR4 pI];exact hf0.2 n)
  exact rG.value (run _ hst) (rJ.trans (side:=[]) (rds:=[]) e1 e2)
 .rename_i ti hno;obtain⟨g',h⟩:=YM (el:=t) hH hr hf (BT g w ti.ty) (fun q _=>⟨0,SU _ _,pI⟩);exact rG.value (run _ hst) h
 cases hr
theorem aJu {t:TypeId}(ho:o.op= .alloc t) {base:Nat}{e:qP}(hr:NB base t (rS T t)=some e) (hf:wT g base e):rG P o a g w H e:=by
 have run: ∀ti,rS T t=some ti->(execOp a.eval o).run P w= .ok (.value (.pointer (some ⟨w.heap.size,0,none⟩))) (w.alloc (.cells (tM ti.ty).toArray t)):=by
  intro ti hti;obtain⟨i,hi,hsz,hz⟩:=BV (sL hT hti);have hc:(wS ti.ty).cells=(tM ti.ty).toArray:=by
   have:=CY (IN g w ti.ty);unfold wS;cases h:ti.ty<;>simp [Ty.isRow,tM,Value.cells]
  unfold execOp;rw[ho];simp only[Instr.alloc,zeroValue,typeInfo,Go.newVar,newRow,aR6,aSH,hi,hz,hc,run_newObj,aR0,aSm];rfl
 exact aAk hT hH run hr hf
theorem aJv {t:TypeId}{x:Operand}(ho:o.op= .box t x) {sx:qC}(hx:rN g w sx (a.eval x)) (hfix: ∀ti:Option TI,rN g w (KO ti sx) (a.eval x)) {base:Nat}{e:qP}(hr:WL base t (rS T t) sx=some e) (hf:wT g base e):rG P o a g w H e:=by
 generalize hst:rS T t=ot at hr;unfold WL at hr;split at hr
 .rename_i u el by' ls_ k;obtain⟨g',h⟩:=YM (el:=t) hH hr hf (show Rd g w (.rl el u) none [.slice none 0 0] from rfl) (fun q hq=>by cases hq);have hv:a.eval x= .slice none 0 0:=hx.1;refine rG.value ?_ h;unfold execOp;rw[ho];simp only[Instr.box,Go.newVar,newRow,aR6,run_newObj,aR0,aSm,hv];rfl
 .rename_i u el by' ar ls_ k;rw[<-hst] at hr;refine aAk hT hH (fun ti hti=>?_) hr hf;rw[hst] at hti;cases hti;have hv:a.eval x= .slice none 0 0:=hx.1;unfold execOp;rw[ho];simp only[Instr.box,Go.newVar,newRow,aR6,run_newObj,aR0,aSm,hv];rfl
 rw[<-hst] at hr;exact aJt hT hH ho (hfix _) hr hf
omit hT hH in
theorem aJw {t:Ty}{y:t.den}{k:pR}{v:pU}(h:BA g t y v k):BA g t y v (CQ t k):=by
 cases t with
 |list u=>exact h
 |_=>trivial
omit hT hH in
theorem aAl {off:Nat}: ∀{l:pN}{o k:Nat},(o,k)∈KX off l->∃q,o=off+q/\(q,k)∈l
 |[],_,_,h=>by cases h
 |(q,k')::r,o,k,h=>by
  simp only[KX,aSa,aSp] at h;rcases h with⟨rfl,rfl⟩ |h
  .exact⟨q,rfl,aSf⟩
  obtain⟨q',h1,h2⟩:=aAl h;exact⟨q',h1,aSb _ h2⟩
omit hT hH in
theorem aAm {v t:Ty}{y:t.den}: ∀{u:Ty}{x z:u.den}{o q:Nat}{l:(Ty.list v).den},sD t y u x o=some z->qZ (.list v) t y q=some l->q<t.cells->qZ (.list v) u z (o+q)=some l:=by
 intro u
 induction u with
 |pair a b iha ihb=>
  intro x z o q l h g hq;by_cases hu:o=0/\t= .pair a b
  .obtain⟨rfl,rfl⟩:=hu;unfold sD at h;rw[aTE rfl] at h;simp only[tJ,aRV] at h;subst h;simpa using g
  .have keyh:(if o<a.cells then(sD t y a x.1 o).map (fun q=>(q,x.2)) else(sD t y b x.2 (o-a.cells)).map (fun q=>(x.1,q)))=some z:=by
    cases o with
    |zero=>
     unfold sD at h;rw[aS8 (fun e=>hu ⟨rfl,e⟩)] at h;simpa using h
    |succ o=>simpa[sD] using h
   have keyg: ∀m,qZ (.list v) (.pair a b) z m=(if m<a.cells then qZ (.list v) a z.1 m else qZ (.list v) b z.2 (m-a.cells)):=by
    intro m;cases m with
    |zero=>
     conv=>lhs;unfold qZ
     rw[aS8 (by intro e;cases e),Nat.zero_sub]
    |succ m=>simp [qZ]
   rw[keyg];by_cases ho:o<a.cells
   .rw[aRZ ho] at keyh;obtain⟨z',hz',rfl⟩:=aR8.1 keyh;have hfit:o+t.cells<=a.cells:=by
     have: ∀{u:Ty}{x z:u.den}{o:Nat},sD t y u x o=some z->o+t.cells<=u.cells:=by
      intro u
      induction u with
      |pair a b iha ihb=>
       intro x z o h;have key: ∀o,(if o<a.cells then(sD t y a x.1 o).map (fun q=>(q,x.2)) else(sD t y b x.2 (o-a.cells)).map (fun q=>(x.1,q)))=some z->o+t.cells<=a.cells+b.cells:=by
        intro o h;by_cases ho:o<a.cells
        .rw[aRZ ho] at h;obtain⟨z',hz',_⟩:=aR8.1 h;have:=iha hz';omega
        rw[aR4 ho] at h;obtain⟨z',hz',_⟩:=aR8.1 h;have:=ihb hz';omega
       cases o with
       |zero=>
        unfold sD at h;split at h
        .rename_i e;subst e;simp
        .exact key 0 (by simpa using h)
       |succ o=>exact key (o+1) (by simpa[sD] using h)
      |_=>
       intro x z o h;cases o with
       |zero=>
        unfold sD at h;split at h
        .rename_i e;subst e;simp
        .simp at h
       |succ o=>simp [sD] at h
     exact this hz'
    rw[aRZ pI];exact iha hz' g hq
   .rw[aR4 ho] at keyh;obtain⟨z',hz',rfl⟩:=aR8.1 keyh;rw[aR4 pI,show o+q-a.cells=o-a.cells+q from by omega];exact ihb hz' g hq
 |_=>
  intro x z o q l h g hq;cases o with
  |zero=>
   unfold sD at h;split at h
   .rename_i e;subst e;simp only[tJ,aRV] at h
    try subst h
    simpa using g
   .simp at h
  |succ o=>simp [sD] at h
omit hT hH in
theorem aAn {v:Ty}: ∀{t:Ty}{x:t.den}{q:Nat}{l:(Ty.list v).den},qZ (.list v) t x q=some l->q<t.cells:=by
 intro t
 induction t with
 |pair s t ihs iht=>
  intro x q l g;have key: ∀q,(if q<s.cells then qZ (.list v) s x.1 q else qZ (.list v) t x.2 (q-s.cells))=some l->q<s.cells+t.cells:=by
   intro q g;by_cases h:q<s.cells
   .omega
   rw[aR4 h] at g;have:=iht g;omega
  cases q with
  |zero=>
   unfold qZ at g;rw[aS8 (by intro e;cases e)] at g;exact key 0 (by simpa using g)
  |succ q=>exact key (q+1) (by simpa[qZ] using g)
 |unit=>
  intro x q l g;cases q with
  |zero=>unfold qZ at g;rw[aS8 (by intro e;cases e)] at g;cases g
  |succ q=>simp [qZ] at g
 |_=>
  intro x q l g;cases q with
  |zero=>simp [Ty.cells]
  |succ q=>simp [qZ] at g
omit hT in
theorem rJ.retok {i:Nat}{u:Ty}{z:u.den}{toks nt:pN}{p:Pl}(hb:qE H i=some (.cells u z toks)) (hp:g.J i=some p)
  (hn: ∀cs,Rd g w u z cs->w.rangeAt p.1 p.2 cs->E6 g u z cs nt):rJ g w H ⟨[],(.any,none),[(i,.cells u z (qT nt toks))],[]⟩ g w undef:=by
 obtain⟨p',cs,hp',hR,hra,hth,hns,htk⟩:=hH.blk i _ hb;rw[hp] at hp';obtain rfl:=aRY hp';have get: ∀j blk,j∈qH [(i,qB.cells u z (qT nt toks))]->qE (qT [(i,qB.cells u z (qT nt toks))] H) j=some blk->j=i/\blk= .cells u z (qT nt toks):=by
  intro j blk hi hg;simp only[qH,aSd] at hi;subst hi;simp only[qT,qE,aTf,aRV] at hg;exact⟨rfl,hg.symm⟩
 have perm: ∀j blk b o,j∈qH [(i,qB.cells u z (qT nt toks))]->qE (qT [(i,qB.cells u z (qT nt toks))] H) j=some blk->s6 g j blk b o->w.heap.size<=b\/sI g H (qH [(i,qB.cells u z (qT nt toks))]) b o:=by
  intro j blk b o hi hg ho;obtain⟨rfl,rfl⟩:=get j blk hi hg;exact .inr ⟨j,_,hi,hb,ho⟩
 have le:Le g w g w:=⟨fun _ _ h=>h,fun _ _ _=>rfl,fun _ _ h=>h,fun _ _ _ h=>h⟩;have fr:Fr (sI g H (qH [(i,qB.cells u z (qT nt toks))])) w w g.S g.S:=⟨rfl,rfl,rfl,aSl _,fun _ _ _=>rfl,fun _ _ _ _=>⟨rfl,rfl⟩,fun _ _ h=> .inl h,fun _ _ h=> .inl h⟩;refine⟨le,⟨trivial,trivial⟩,hH.upd le fr perm (fun _ _=>⟨rfl,rfl⟩) (fun j blk hi hg=>?_) (fun i j bi bj b o hi hj hij hgi hgj _ _=>hij ((get i bi hi hgi).1.trans (get j bj hj hgj).1.symm)) (fun b o h=>hH.sl b o h),fr,perm,fun _ _=>⟨rfl,rfl⟩,fun j u' y' us h=>?_⟩
 .obtain⟨rfl,rfl⟩:=get j blk hi hg;refine⟨p,cs,hp,hR,hra,hth,hns,fun q kk hm=>?_⟩;rcases(E7.1 hm) with hm|hm
  .exact hn cs hR hra q kk hm
  exact htk q kk hm
 simp only[qT,qE] at h;split at h
 .rename_i e1;subst e1;simp only[aRV,qB.cells.injEq] at h;obtain⟨rfl,_⟩:=h;exact .inl ⟨z,toks,hb⟩
 exact .inl ⟨y',us,h⟩
omit hT hH in
theorem aJx {g:Gh}{t a b:Ty}{y:t.den}{v:pU}{k:pR}(h:k.isSome=true) (ht:t= .pair a b) (hk:BA g t y v k): ∃m,k=some m/\wR m t 0 v.cells.toList:=by
 subst ht;cases k with
 |none=>cases h
 |some k=>exact⟨k,rfl,hk⟩
omit hT hH in
theorem aJy {base i off:Nat}{b:Option qB}{ls:List (Nat×TypeId×Nat)}{t:Ty}{y:t.den}{k:pR}{e:qP}(h:DW base i off b ls t y k=some e):
  (∃(s:Ty) (x:s.den) (toks:pN) (z:s.den),b=some (.cells s x toks)/\sD t y s x off=some z/\k.isSome=true/\(∃a c,t= .pair a c)/\∃m,k=some m/\CU t (AH m ls)=true/\
   e=⟨[],(.any,none),(i,.cells s z (qT (KX off (AG (AH m ls) base)) (t6 toks off t.cells)))::qT (BQ (AH m ls) base) [(i,.cells s z (t6 toks off t.cells))],[i]⟩)\/RP t y k i off b=some e:=by
 unfold DW at h;split at h
 .rename_i q r a c y' k';cases hok:CU (.pair a c) (AH k' (q::r)) with
  |false=>rw[hok] at h;unfold RQ at h;split at h<;>first|cases h|(rename_i h2;cases h2)
  |true=>
   rw[hok] at h;unfold RQ at h;split at h
   .rename_i s x toks _;cases hset:sD (.pair a c) y' s x off with
    |none=>rw[hset] at h;cases h
    |some z=>
     rw[hset] at h;exact .inl ⟨s,x,toks,z,rfl,hset,rfl,⟨a,c,rfl⟩,_,rfl,hok,(aRY h).symm⟩
   cases h
 exact .inr h
omit hT hH in
theorem aAo {i off k n el:Nat}{u v:Ty}{x:v.den}{ts:pN}{ls:List (Nat×TypeId×Nat)}{y:Option qP}{e:qP}(h:X4 H i off k n el u v x ts ls y=some e):y=some e\/X3 i (wZ el u (some (k,n)) v x off)=some e\/NH i off k n u v x (t6 ts off 1) (qE H k)=some e:=by
 cases y with
 |some r=>exact .inl h
 |none=>cases ls with
  |nil=>exact .inr (.inl h)
  |cons q r=>exact .inr (.inr h)
omit hT hH in
theorem aJz {v:Ty}{e:Nat}{u:Ty}{y:pQ}: ∀{t:Ty}{x z:t.den}{o q:Nat}{l:(Ty.list v).den},sD (.rl e u) y t x o=some z->qZ (.list v) t x q=some l->q≠o:=by
 intro t
 induction t with
 |pair a b iha ihb=>
  intro x z o q l h g;have keyh:(if o<a.cells then(sD (.rl e u) y a x.1 o).map (fun q=>(q,x.2)) else(sD (.rl e u) y b x.2 (o-a.cells)).map (fun q=>(x.1,q)))=some z:=by
   cases o with
   |zero=>
    unfold sD at h;rw[aS8 (by intro e;cases e)] at h;simpa using h
   |succ o=>simpa[sD] using h
  have keyg:(if q<a.cells then qZ (.list v) a x.1 q else qZ (.list v) b x.2 (q-a.cells))=some l:=by
   cases q with
   |zero=>
    unfold qZ at g;rw[aS8 (by intro e;cases e)] at g;simpa using g
   |succ q=>simpa[qZ] using g
  intro hqo;subst hqo;by_cases hq:q<a.cells
  .rw[aRZ hq] at keyh keyg;obtain⟨z',hz',_⟩:=aR8.1 keyh;exact iha hz' keyg rfl
  .rw[aR4 hq] at keyh keyg;obtain⟨z',hz',_⟩:=aR8.1 keyh;exact ihb hz' keyg rfl
 |rl e' u'=>
  intro x z o q l h g hqo;cases q with
  |zero=>
   unfold qZ at g;split at g
   .rename_i e1;cases e1
   .cases g
  |succ q=>simp [qZ] at g
 |_=>
  intro x z o q l h g hqo;cases o with
  |zero=>
   unfold sD at h;split at h
   .rename_i e1;cases e1
   .cases h
  |succ o=>simp [sD] at h
omit hT hH in
theorem aAp {n:Nat}: ∀{l:List (Nat×qB)},RS n l=true->∀j,j∈qH l->j<n
 |[],_,j,h=>by cases h
 |(i,b)::r,h,j,hj=>by
  simp only[RS] at h;split at h
  .simp only[qH,aSa] at hj;rcases hj with rfl|hj
   .assumption
   exact aAp h j hj
  cases h
omit hT in
theorem aAq {v:Ty}{t:Ty}: ∀{R:List (Nat×Nat×Ty)}{i:Nat}{x z:t.den}{q:Nat}{l:(Ty.list v).den},zW t i R (some x)=some z->qZ (.list v) t x q=some l->qZ (.list v) t z q=some l
 |[],i,x,z,q,l,h,g=>by simp only[zW,aRV] at h;exact h▸g
 |(o,e,u)::r,i,x,z,q,l,h,g=>by
  simp only[zW] at h;cases hs:sD (.rl e u) (some (i,0)) t x o with
  |none=>rw[hs] at h;cases r<;>simp [zW] at h
  |some x'=>
   rw[hs] at h;have hne:=aJz hs g;exact aAq h (T0 hH hs g (fun⟨h1,h2⟩=>by simp only[Ty.cells] at h2;omega))
omit hT in
theorem rJ.reread {i:Nat}{u:Ty}{z z2:u.den}{toks0 toks:pN}{p:Pl}(hb:qE H i=some (.cells u z toks0)) (hp:g.J i=some p) (hsub: ∀x∈toks,x∈toks0)
  (hn: ∀cs,Rd g w u z cs->w.rangeAt p.1 p.2 cs->Rd g w u z2 cs) (hl: ∀(v:Ty) q (l:(Ty.list v).den),qZ (.list v) u z q=some l->qZ (.list v) u z2 q=some l):rJ g w H ⟨[],(.any,none),[(i,.cells u z2 toks)],[]⟩ g w undef:=by
 obtain⟨p',cs,hp',hR,hra,hth,hns,htk⟩:=hH.blk i _ hb;rw[hp] at hp';obtain rfl:=aRY hp';have get: ∀j blk,j∈qH [(i,qB.cells u z2 toks)]->qE (qT [(i,qB.cells u z2 toks)] H) j=some blk->j=i/\blk= .cells u z2 toks:=by
  intro j blk hi hg;simp only[qH,aSd] at hi;subst hi;simp only[qT,qE,aTf,aRV] at hg;exact⟨rfl,hg.symm⟩
 have perm: ∀j blk b o,j∈qH [(i,qB.cells u z2 toks)]->qE (qT [(i,qB.cells u z2 toks)] H) j=some blk->s6 g j blk b o->w.heap.size<=b\/sI g H (qH [(i,qB.cells u z2 toks)]) b o:=by
  intro j blk b o hi hg ho;obtain⟨rfl,rfl⟩:=get j blk hi hg;exact .inr ⟨j,_,hi,hb,ho⟩
 have le:Le g w g w:=⟨fun _ _ h=>h,fun _ _ _=>rfl,fun _ _ h=>h,fun _ _ _ h=>h⟩;have fr:Fr (sI g H (qH [(i,qB.cells u z2 toks)])) w w g.S g.S:=⟨rfl,rfl,rfl,aSl _,fun _ _ _=>rfl,fun _ _ _ _=>⟨rfl,rfl⟩,fun _ _ h=> .inl h,fun _ _ h=> .inl h⟩;refine⟨le,⟨trivial,trivial⟩,hH.upd le fr perm (fun _ _=>⟨rfl,rfl⟩) (fun j blk hi hg=>?_) (fun i j bi bj b o hi hj hij hgi hgj _ _=>hij ((get i bi hi hgi).1.trans (get j bj hj hgj).1.symm)) (fun b o h=>hH.sl b o h),fr,perm,fun _ _=>⟨rfl,rfl⟩,fun j u' y' us h=>?_⟩
 .obtain⟨rfl,rfl⟩:=get j blk hi hg;refine⟨p,cs,hp,hn cs hR hra,hra,hth,hns,fun q kk hm=>?_⟩;obtain⟨v,l,vv,h1,h2,h3⟩:=htk q kk (hsub _ hm);exact⟨v,l,vv,hl v q l h1,h2,h3⟩
 simp only[qT,qE] at h;split at h
 .rename_i e1;subst e1;simp only[aRV,qB.cells.injEq] at h;obtain⟨rfl,_⟩:=h;exact .inl ⟨z,toks0,hb⟩
 exact .inl ⟨y',us,h⟩
omit hT in
theorem aJA {base:Nat}{e0 e:qP}(hr:NF base (some e0)=some e) {w':pT}{g1:Gh}{i:Nat}{v:Ty}{z:v.den}{ts:pN}{U:List (Nat×qB)}(he:e0.upd=(i,.cells v z ts)::U) (hs:e0.side=[]) (hl:e0.slot=(.any,none)) (h0:rJ g w H e0 g1 w' undef) (hf:wT g base e):
  e.side=[]/\∃g',rJ g w H e g' w' undef:=by
 obtain⟨sd,s,up,rd⟩:=e0;simp only at he hs hl;subst he hs hl;simp only[NF] at hr;split at hr
 case isFalse=>cases hr
 rename_i hbe;have hno:=aAp hbe;cases hz:zW v base (xY v z 0) (some z) with
 |none=>rw[hz] at hr;cases hr
 |some z2=>
  rw[hz] at hr;simp only[RR,aRV] at hr;subst hr;refine⟨rfl,?_⟩;obtain⟨p,cs,hp,hR,hra,_,_,_⟩:=h0.heap.blk i (.cells v z ts) (by simp [qT,qE]);have hfree: ∀j,base<=j->j<base+(xY v z 0).length->∀n,g1.cur j n=none:=by
   intro j h1 h2 n;have hj:j∉qH ((i,qB.cells v z ts)::U):=fun h=>by have:=hno j h;omega
   rw[(h0.gho j hj).2];exact(hf j (by simp only[qH,aSa];right;rw[AM];exact .inl ((T5 _ base j).2 ⟨h1,h2⟩)) h1).2 n
  obtain⟨g2,m1,m2,m3,m4⟩:=YI (xY v z 0) base g1 _ h0.heap hfree;have hb3:qE (qT (CV (xY v z 0) base) (qT ((i,qB.cells v z ts)::U) H)) i=some (.cells v z ts):=by
   rw[yM (fun h=>by
    have h1:=(T5 _ base i).1 h;have h2:=hno i (by simp [qH]);omega)]
   simp [qT,qE]
  have cR:=fun cs (hR:Rd g2 w' v z cs) q hq=>aAi (o:=0) hR q hq;have e3:=rJ.reread (z2:=z2) (p:=p) m1.heap hb3 (by rw[m2];exact hp) (fun _ h=>h) (fun cs hRc _=>YL hz hRc (fun q hq=>by simpa using(cR cs hRc q hq).2) (fun j hj=>m3 j hj)) (fun v' q l hg=>aAq hH hz hg);have e4:=rJ.trans (side:=[]) (rds:=[]) h0 m1;have e5:=rJ.trans (side:=[]) (rds:=[i]) e4 (e3.congrH (H':=qT (qT (CV (xY v z 0) base) ((i,qB.cells v z ts)::U)) H) (by simp only[IM]));exact⟨_,e5⟩
omit hT hH in
theorem aJB {i:Nat}{d:DV}{r3 r4:Nat×Nat}{sd:List Prop}{y:Nat×Nat×(Nat×Nat)×(Nat×Nat)}(h:RV i d r3 r4=some (sd,y)) (hs: ∀p∈sd,p) {v:pU}(hd:xD g w (.apd d) v):CX g w y [v]:=by
 obtain⟨b,u,rfl,hS,hc,hu⟩:=hd;unfold RV at h;split at h
 .rename_i j o;obtain⟨p,hp,rfl⟩:=wC hu;unfold a9o at h;split at h
  .rename_i hji;subst hji;split at h
   .rename_i ho;subst ho;cases h;exact .inr ⟨pJ,b,_,rfl,hS,hc,fun _=>⟨p,hp,rfl⟩,fun q=>absurd q pJ,fun q=>absurd q pJ,fun q=>absurd q pJ⟩
   split at h
   .rename_i ho;subst ho;cases h;exact .inr ⟨pJ,b,_,rfl,hS,hc,fun q=>absurd q pJ,fun _=>⟨p,hp,rfl⟩,fun q=>absurd q pJ,fun q=>absurd q pJ⟩
   cases h
  cases h
 .rename_i k n c ix o;obtain⟨bb,cap,hcur,h0,h1,rfl⟩:=hu;unfold a9p at h;split at h
  .rename_i hc1;subst hc1;split at h
   .rename_i ho;subst ho;split at h
    .rename_i hk;cases h;have e1:=hs _ (aSf);have e2:=hs _ (aSb _ aSf);rw[hk,e1] at hcur;refine .inr ⟨pJ,b,_,rfl,hS,hc,fun q=>absurd q pJ,fun q=>absurd q pJ,fun _=>⟨bb,cap,by rw[hk];exact hcur,pI,by congr 1;omega⟩,fun q=>absurd q pJ⟩
    cases h
   cases h
  split at h
  .rename_i hc2;subst hc2;split at h
   .rename_i ho;subst ho;split at h
    .rename_i hk;cases h;have e1:=hs _ (aSf);have e2:=hs _ (aSb _ aSf);rw[hk,e1] at hcur;refine .inr ⟨pJ,b,_,rfl,hS,hc,fun q=>absurd q pJ,fun q=>absurd q pJ,fun q=>absurd q pJ,fun _=>⟨bb,cap,by rw[hk];exact hcur,pI,by congr 1;omega⟩⟩
    cases h
   cases h
  cases h
 cases h
theorem aJC {t:TypeId}{x y:Operand}(ho:o.op= .store t x y) {sx sy:qC}(hx:rN g w sx (a.eval x)) (hy:rN g w sy (a.eval y)) {base:Nat}{e:qP}(hr:RX base H (rS T t) sx sy=some e) (hside: ∀p∈e.side,p) (hf:wT g base e):rG P o a g w H e:=by
 generalize hst:rS T t=ot at hr;unfold RX at hr;split at hr
 .rename_i ti i off k kk n k2;generalize hb:qE H i=ob at hr;unfold KY at hr;split at hr
  .rename_i u el _ _ _ v x' toks;rcases aAo hr with hq|hq|hq
   case inr.inr hq=>
    clear hr;generalize hk:qE H kk=ok at hq;unfold NH at hq;split at hq
    case h_2=>cases hq
    rename_i el2 t2 l2 m2;split at hq
    case isFalse=>cases hq
    rename_i htu;subst htu;generalize hset:sD (.list t2) l2 v x' off=oz at hq;cases oz with
    |none=>cases hq
    |some z'=>
     simp only[RT,aRV] at hq;subst hq;have hnm:n=m2:=hside _ (aSd.2 rfl);subst hnm;have hty:=sL hT hst;obtain⟨p,hp,hv⟩:=wC hx.1;obtain⟨h1,h2⟩:=hy.1;obtain⟨g1,k1,k2,k3,k4⟩:=a96 hH hk;have hik:i≠kk:=fun e1=>by rw[e1,hk] at hb;cases hb
     have hb1:qE (qT [(kk,qB.grow el2 t2.cells n)] H) i=some (.cells v x' toks):=by
      simp only[qT,qE];rw[aR4 (Ne.symm hik)];exact hb
     have hR:Rd g1 w (.list t2) l2 [a.eval y]:=k4 _ ⟨_,by rw[k2];exact h1,rfl,h2⟩;obtain⟨heff,hth⟩:=rJ.store (side:=[]) (rds:=[i]) (k:=none) (v:=a.eval y) k3.heap hb1 (by rw[k1];exact hp) hset hR trivial (fun _ _ _=>rfl) (fun _=>rfl);have hce:(a.eval y).cells= #[a.eval y]:=by rcases h2 with⟨h2,_⟩ |⟨_,_,h2,_⟩<;>(rw[h2];rfl)
     refine rG.skip (w':=w.setCells p.1 (p.2+off) [a.eval y]) ?_ (rJ.trans (side:=[n=n]) (rds:=[i,kk]) k3 heff);obtain⟨inf,hi,hsz,_⟩:=BV hty;have hcells:=run_storeCells_cells (P:=P) p.1 (p.2+off) [a.eval y] 0 w (fun j hj=>by simpa using(hth j hj).1) (fun j hj=>by simpa using(hth j hj).2) (fun v hv=>yJ hR v hv);simp only[aSM] at hcells;have hs2:(a.eval y).cells.size=inf.size:=by rw[hsz,hce];rfl
     have hcl:(a.eval y).cells.toList=[a.eval y]:=by rw[hce]
     simp only[execOp,ho,hv,Instr.storeAt,Instr.sureAddr,storeVar,aR6,aSm,aR0,sizeOf,typeInfo,aSH,hi,hs2,ne_eq,not_true_eq_false,aTK,hcl,hcells]
   case inr.inl hq=>
    replace hr:=hq;generalize hset:wZ el u (some (kk,n)) v x' off=oz at hr;cases oz with
    |none=>cases hr
    |some z'=>
     cases hr;have hty:=sL hT hst;obtain⟨p,hp,hv⟩:=wC hx.1;obtain⟨h1,h2⟩:=hy.1;have hR:Rd g w (.rl el u) (some (kk,n)) [a.eval y]:=⟨_,h1,rfl,h2⟩;obtain⟨heff,hth⟩:=y7.openS (side:=[]) (rds:=[1000000000,i]) hH hb hp hset hR rfl rfl;have hce:(a.eval y).cells= #[a.eval y]:=by rcases h2 with⟨h2,_⟩ |⟨_,_,h2,_⟩<;>(rw[h2];rfl)
     refine rG.skipW (w':=w.setCells p.1 (p.2+off) [a.eval y]) ?_ heff;obtain⟨inf,hi,hsz,_⟩:=BV hty;have hcells:=run_storeCells_cells (P:=P) p.1 (p.2+off) [a.eval y] 0 w (fun j hj=>by simpa using(hth j hj).1) (fun j hj=>by simpa using(hth j hj).2) (fun v hv=>yJ hR v hv);simp only[aSM] at hcells;have hs2:(a.eval y).cells.size=inf.size:=by rw[hsz,hce];rfl
     have hcl:(a.eval y).cells.toList=[a.eval y]:=by rw[hce]
     simp only[execOp,ho,hv,Instr.storeAt,Instr.sureAddr,storeVar,aR6,aSm,aR0,sizeOf,typeInfo,aSH,hi,hs2,ne_eq,not_true_eq_false,aTK,hcl,hcells]
   replace hr:=hq;generalize hset:sD (.rl el u) (some (kk,n)) v x' off=oz at hr;cases oz with
   |none=>cases hr
   |some z'=>
    cases hr;have hty:=sL hT hst;obtain⟨p,hp,hv⟩:=wC hx.1;obtain⟨h1,h2⟩:=hy.1;have hR:Rd g w (.rl el u) (some (kk,n)) [a.eval y]:=⟨_,h1,rfl,h2⟩;obtain⟨heff,hth⟩:=rJ.store (side:=[]) (rds:=[i]) (k:=none) (v:=a.eval y) hH hb hp hset hR trivial (fun _ _ _=>rfl) (fun _=>rfl);have hce:(a.eval y).cells= #[a.eval y]:=by rcases h2 with⟨h2,_⟩ |⟨_,_,h2,_⟩<;>(rw[h2];rfl)
    refine rG.skip (w':=w.setCells p.1 (p.2+off) [a.eval y]) ?_ heff;obtain⟨inf,hi,hsz,_⟩:=BV hty;have hcells:=run_storeCells_cells (P:=P) p.1 (p.2+off) [a.eval y] 0 w (fun j hj=>by simpa using(hth j hj).1) (fun j hj=>by simpa using(hth j hj).2) (fun v hv=>yJ hR v hv);simp only[aSM] at hcells;have hs2:(a.eval y).cells.size=inf.size:=by rw[hsz,hce];rfl
    have hcl:(a.eval y).cells.toList=[a.eval y]:=by rw[hce]
    simp only[execOp,ho,hv,Instr.storeAt,Instr.sureAddr,storeVar,aR6,aSm,aR0,sizeOf,typeInfo,aSH,hi,hs2,ne_eq,not_true_eq_false,aTK,hcl,hcells]
  cases hr
 .rename_i ti i off _ d _;generalize hb:qE H i=ob at hr;generalize hty0:ti.ty=ty0 at hr;unfold X0 at hr;split at hr
  case h_2=>cases hr
  rename_i v x' toks;generalize hden:RV i d (RU (AE v x' 8)) (RU (AE v x' 11))=od at hr;cases od with
  |none=>cases hr
  |some q=>
   obtain⟨sd,yy⟩:=q;simp only[WZ] at hr;generalize hset:sD .ap yy v x' off=oz at hr;cases oz with
   |none=>cases hr
   |some z'=>
    simp only[WY,aRV] at hr;subst hr;have hty:=sL hT hst;obtain⟨p,hp,hv⟩:=wC hx.1;have hR:Rd g w .ap yy [a.eval y]:=aJB hden hside hy.1;obtain⟨heff,hth⟩:=rJ.store (side:=sd) (rds:=[i]) (k:=none) (v:=a.eval y) hH hb hp hset hR trivial (fun _ _ _=>rfl) (fun _=>rfl);have hce:(a.eval y).cells= #[a.eval y]:=by
     obtain⟨b,u,e1,_⟩:=hy.1;rw[e1];rfl
    refine rG.skip (w':=w.setCells p.1 (p.2+off) [a.eval y]) ?_ heff;obtain⟨inf,hi,hsz,_⟩:=BV hty;have hcells:=run_storeCells_cells (P:=P) p.1 (p.2+off) [a.eval y] 0 w (fun j hj=>by simpa using(hth j hj).1) (fun j hj=>by simpa using(hth j hj).2) (fun v hv=>yJ hR v hv);simp only[aSM] at hcells;have hs2:(a.eval y).cells.size=inf.size:=by rw[hsz,hce,hty0];rfl
    have hcl:(a.eval y).cells.toList=[a.eval y]:=by rw[hce]
    simp only[execOp,ho,hv,Instr.storeAt,Instr.sureAddr,storeVar,aR6,aSm,aR0,sizeOf,typeInfo,aSH,hi,hs2,ne_eq,not_true_eq_false,aTK,hcl,hcells]
 .rename_i ti k n c i o' _ u z kk;split at hr
  .rename_i hu;subst hu;generalize hk:qE H k=ob at hr;unfold RW at hr;split at hr
   .rename_i e' t' l m;split at hr
    .rename_i hc;generalize hset:sD ti.ty z t' (qR t' l i) o'=oz at hr;cases oz with
     |none=>cases hr
     |some z'=>
      cases hr;have hnm:=hside _ (aSd.2 rfl);obtain⟨b,cap,xs,c1,c2,c3,hv,hcur,hown,hF,hl,hi,h0,e1,e2,e3,e4⟩:=a99 hT hH hx.1 hk hnm hc;subst hnm;have hty:=sL hT hst;obtain⟨hvy,hky⟩:=YN hT hH hy;have hR:=CY hvy;have hRl:=sJ hR;obtain⟨d1,d2,d3,f1,f2,f3,f4⟩:=NW hR e4 hset;obtain⟨_,_,_,_,hv0,hown0,_,hnone,hseal⟩: ∃(_:True) (_:True) (v0:pU) (xs0:pP),g.cur k n=some v0/\w.ownsRow 0 e' t'.cells v0 n xs0/\tG (Rd g w t') t'.cells l xs0/\(∀m,n<m->g.cur k m=none)/\∀b,v0.ownBlock=some b->∀o,¬g.S b o:=by
       obtain⟨_,v0,xs0,q1,q2,q3,q4,q5⟩:=hH.blk k _ hk;exact⟨trivial,trivial,v0,xs0,q1,q2,q3,q4,q5⟩
      rw[hcur] at hv0;obtain rfl:=aRY hv0;rcases hown.2 with⟨h5,_⟩ |⟨q,cap',cur,h5,_,hg,hnc,hcm,hcs,htake⟩
      .cases h5
      simp only[aTk,aRV,Addr.mk.injEq,and_true,true_and] at h5;obtain⟨rfl,rfl⟩:=h5;have hxl:=hown.1;have hnew:=sJ f4;simp only[aRX] at hnew;have hc2l:c2.length=t'.cells:=by rw[e3,hc]
      have hd:d1.length+d2.length+d3.length=t'.cells:=by rw[<-hc2l,f1];simp only[aRX]
      have hx1:c1.length+c2.length+c3.length=n*t'.cells:=by rw[<-hxl,e1];simp only[aRX]
      have hall:cur.toList=(c1++(d1++d2++d3)++c3)++cur.toList.drop (n*t'.cells):=by
       conv=>lhs;rw[<-aTh (n*t'.cells) cur.toList,htake,e1,f1]
      obtain⟨D,hD⟩: ∃D,D=cur.toList.drop (n*t'.cells):=⟨_,rfl⟩;rw[<-hD] at hall;have hall2:cur.toList=(c1++d1)++(d2++(d3++c3++D)):=by rw[hall];simp only[aR9]
      have hpos:i.toNat*c+o'=(c1++d1).length:=by rw[aRX,e2,f2]
      have hD2:(a.eval y).cells.toList.length=d2.length:=by rw[hRl,f3]
      have hfit:i.toNat*c+o'+0+(a.eval y).cells.toList.length<=cur.size:=by
       have:cur.size=cur.toList.length:=by simp
       rw[this,hall2,aSM,hpos,hD2];simp only[aRX];omega
      have hst2:=run_storeCells_at P b (i.toNat*c+o') e' (a.eval y).cells.toList 0 cur w hg hfit (fun v hv=>yJ hR v hv);have hrow:cur.toList.take (i.toNat*c+o'+0)++(a.eval y).cells.toList++cur.toList.drop (i.toNat*c+o'+0+(a.eval y).cells.toList.length)=(c1++(d1++(a.eval y).cells.toList++d3)++c3)++D:=by
       rw[aSM,hpos,hD2,hall2,aTp,List.drop_append,List.drop_of_length_le pI,List.nil_append,aSB,List.drop_left];simp only[aR9]
      rw[hrow] at hst2;obtain⟨inf,hinf,hsz,_⟩:=BV hty;have hs2:(a.eval y).cells.size=inf.size:=by rw[hsz,<-hRl,aSF]
      have hnewlen:((c1++(d1++(a.eval y).cells.toList++d3)++c3)++D).length=cur.size:=by
       have:cur.size=cur.toList.length:=by simp
       rw[this,hall];simp only[aRX];omega
      have hxs':(c1++(d1++(a.eval y).cells.toList++d3)++c3).length=n*t'.cells:=by
       rw[<-hx1];simp only[aRX];rw[f1];simp only[aRX];omega
      have hown':(w.setRow b ((c1++(d1++(a.eval y).cells.toList++d3)++c3)++D).toArray).ownsRow 0 e' t'.cells (.slice (some ⟨b,0,none⟩) n cap) n (c1++(d1++(a.eval y).cells.toList++d3)++c3):=
       ⟨hxs',.inr ⟨b,cap,_,rfl,aS3 _,aTS w b cur _ e' _ hg,hnc,hcm,by rw[aSI,hnewlen,hcs],by rw[<-hxs'];exact aTp⟩⟩
      have hF':tG (Rd g w t') t'.cells (l.set i.toNat z') (c1++(d1++(a.eval y).cells.toList++d3)++c3):=by
       obtain⟨q1,q2,q3,r1,r2,r3,r4⟩:=SZ hF f4 (sJ f4) hi;have s1:q1=c1/\q2=c2/\q3=c3:=by
        have h6:q1++(q2++q3)=c1++(c2++c3):=by rw[<-aR9,<-r1,e1,aR9]
        obtain⟨h7,h8⟩:=aTl h6 (by rw[r2,e2,hc]);obtain⟨h9,h10⟩:=aTl h8 (by rw[r3,e3,hc]);exact⟨h7,h9,h10⟩
       obtain⟨rfl,rfl,rfl⟩:=s1;exact r4
      have hownk: ∀o,sI g H [k] b o:=fun o=>⟨k,_,by simp,hk,_,hcur,rfl⟩;refine rG.skip (w':=w.setRow b ((c1++(d1++(a.eval y).cells.toList++d3)++c3)++D).toArray) ?_ (rJ.row (v:= .slice (some ⟨b,0,none⟩) n cap) hH (by rw[List.length_set];exact hl) hown' hF' hnone (fun u hu=>by rw[hcur] at hu;exact(aRY hu).symm)
       (.inr ⟨some b,⟨rfl,rfl,rfl,by simp,fun q _ hq=>aTs w b q _ (fun e=>hq (by rw[e]))⟩,fun b' hb' o=>by cases hb';exact hownk o⟩) (fun b' o hS=>?_) hseal (fun b' hb'=>by cases hb';exact .inr hownk) ⟨trivial,trivial⟩)
      .simp only[execOp,ho,hv,Instr.storeAt,Instr.sureAddr,storeVar,aR6,aSm,aR0,sizeOf,typeInfo,aSH,hinf,hs2,ne_eq,not_true_eq_false,aTK,hst2]
      have hne:b'≠b:=fun e=>hseal b rfl o (e▸hS);exact aSh (a:=⟨b',o,none⟩) (aTs w b b' _ hne)
    cases hr
   cases hr
  cases hr
 .rename_i ti i off k u z kk;split at hr
  .rename_i hu;subst hu;generalize hb:qE H i=ob at hr;have hty:=sL hT hst;obtain⟨p,hp,hv⟩:=wC hx.1;obtain⟨hvy,hky⟩:=YN hT hH hy;have hR:=CY hvy;have hone:ti.ty.isRow=false->(a.eval y).cells.toList=[a.eval y]:=fun hrow=>by
    have h1:=yJ (wB hrow hvy) _ (aSd.2 rfl);cases h:a.eval y<;>first|rfl|(rw[h] at h1;simp [Value.oneCell'] at h1)
   have hrun:w.there p.1 (p.2+off) (a.eval y).cells.toList.length->(execOp a.eval o).run P w= .ok .skip (w.setCells p.1 (p.2+off) (a.eval y).cells.toList):=by
    intro hth;obtain⟨inf,hi,hsz,_⟩:=BV hty;have hlen:=sJ hR;have hcells:=run_storeCells_cells (P:=P) p.1 (p.2+off) (a.eval y).cells.toList 0 w (fun j hj=>by simpa using(hth j hj).1) (fun j hj=>by simpa using(hth j hj).2) (fun v hv=>yJ hR v hv);simp only[aSM] at hcells;have hs2:(a.eval y).cells.size=inf.size:=by rw[hsz,<-hlen,aSF]
    simp only[execOp,ho,hv,Instr.storeAt,Instr.sureAddr,storeVar,aR6,aSm,aR0,sizeOf,typeInfo,aSH,hi,hs2,ne_eq,not_true_eq_false,aTK,hcells]
   have uI: ∀{e0:qP}{g1:Gh}{w':pT}{j:Nat}{v:Ty}{zz:v.den}{ts:pN}{U:List (Nat×qB)},DW base i off ob ti.ls ti.ty z kk=some e0->e0.upd=(j,.cells v zz ts)::U->e0.side=[]->e0.slot=(.any,none)->(execOp a.eval o).run P w= .ok .skip w'->rJ g w H e0 g1 w' undef->rG P o a g w H e:=by
    intro e0 g1 w' j v zz ts U h0 h1 h2 h3 h5 h6;rw[h0] at hr;cases hb':I5 ti.ty with
    |false=>
     rw[hb'] at hr;cases hr;exact rG.skip h5 h6
    |true=>
     rw[hb'] at hr;obtain⟨_,g',h7⟩:=aJA hH hr h1 h2 h3 h6 (fun q hq hle=>hf q hq pI);exact rG.skip h5 h7
   obtain⟨e0,hr0⟩: ∃e0,DW base i off ob ti.ls ti.ty z kk=some e0:=by
    cases h:DW base i off ob ti.ls ti.ty z kk with
    |some e0=>exact⟨e0,rfl⟩
    |none=>
     rw[h] at hr;cases hb':I5 ti.ty<;>rw[hb'] at hr<;>cases hr
   have hf0: ∀q,q∈qH e0.upd->q∈qH e.upd:=by
    rw[hr0] at hr;cases hb':I5 ti.ty with
    |false=>rw[hb'] at hr;cases hr;exact fun _ h=>h
    |true=>
     rw[hb'] at hr;obtain⟨sd,s,up,rd⟩:=e0;simp only[WX] at hr;unfold NF at hr;split at hr
     .rename_i heq;cases heq;split at hr
      case isFalse=>cases hr
      generalize hzz:zW _ _ _ _=ozz at hr;cases ozz with
      |none=>cases hr
      |some z2=>
       simp only[RR,aRV] at hr;subst hr;intro q hq;simp only[qH,aSa];right;rw[AM];exact .inr hq
     cases hr
   replace hf:wT g base e0:=fun q hq hle=>hf q (hf0 q hq) hle;rcases aJy hr0 with⟨s,x',toks,z',hb',hset,hsome,⟨pa,pb,hpair⟩,mk_,hmk,hok,rfl⟩ |hr1
   .rw[hb'] at hb;have hn:wR mk_ ti.ty 0 (a.eval y).cells.toList:=by
     obtain⟨m',e1,e2⟩:=aJx hsome hpair hky;rw[hmk] at e1;obtain rfl:=aRY e1;exact e2
    have hlx:=fun q hq=>T6 (k:=mk_) (ls:=ti.ls) (q:=q) hq;generalize AH mk_ ti.ls=lsm at hf hok hlx hr0;obtain⟨heff,hth⟩:=rJ.store (side:=[]) (rds:=[i]) (k:=none) (v:=undef) hH hb hp hset hR trivial (fun _ _ _=>rfl) (fun h=>by rw[hpair] at h;cases h);have hfr: ∀j,base<=j->j<base+lsm.length->∀n,g.cur j n=none:=fun j h1 h2=>(hf j (by
     simp only[qH,aSa];right;rw[AM];exact .inl ((O3 _ base j).2 ⟨h1,h2⟩)) h1).2
    obtain⟨g1,k1,k2,k3,k4⟩:=YF lsm base g _ heff.heap hfr;have e2:=rJ.trans (side:=[]) (rds:=[]) heff k1;have hib:i<base:=by
     rcases aSQ i base with h|h
     .exact h
     have:=(hf i (by simp [qH]) h).1;rw[hp] at this;cases this
    have hiN:i∉qH (BQ lsm base):=fun h=>by
     have:=(O3 _ base i).1 h;omega
    have hb3:qE (qT (qT (BQ lsm base) [(i,qB.cells s z' (t6 toks off ti.ty.cells))]) H) i=some (.cells s z' (t6 toks off ti.ty.cells)):=by
     rw[IM,yM hiN];simp [qT,qE]
    have hyl:=sJ hR;have e3:=rJ.retok (p:=p) (nt:=KX off (AG lsm base)) e2.heap hb3 (by rw[k2];exact hp) (fun cs hRz hra o k hm=>by
     obtain⟨q,rfl,hq⟩:=aAl hm;obtain⟨en,he,rfl⟩:=YG hq;obtain⟨u,h1,h2⟩:=a91 hn hR (YH hok en he) (by have:=hlx en he;omega);have hql:en.1<(a.eval y).cells.toList.length:=(aR7.1 h2).1;have h3:=aAm hset h1 pI;refine⟨u,[],.slice none 0 0,h3,?_,k3 _ _ hq⟩;have hlen:=sJ hRz;have hlt:=aAn h3;have hc:cs[off+en.1]? =some cs[off+en.1]:=aR3 pI;have hr1:=hra _ _ hc;have hr2:=aTe p.1 (a.eval y).cells.toList (p.2+off) w (fun j hj=>(hth j hj).1) en.1 hql;rw[aSz] at hr2;rw[hr2] at hr1;rw[hc,<-hr1,<-h2,aR3 hql])
    exact uI (w':=w.setCells p.1 (p.2+off) (a.eval y).cells.toList) hr0 rfl rfl rfl (hrun hth) (rJ.trans (side:=[]) (rds:=[i]) e2 e3)
   cases ob with
   |none=>cases hr1
   |some bl=>
   cases bl with
   |cells s q toks=>
    simp only[RP] at hr1;generalize hset:sD ti.ty z s q off=oz at hr1;cases oz with
    |none=>cases hr1
    |some z'=>
     simp only[KW,aRV] at hr1;subst hr1;obtain⟨heff,hth⟩:=rJ.store (side:=[]) (rds:=[i]) hH hb hp hset hR (aJw hky) (fun a b e=>by rw[e];rfl) hone;exact uI (w':=w.setCells p.1 (p.2+off) (a.eval y).cells.toList) hr0 rfl rfl rfl (hrun hth) heff
   |_=>cases hr1
  cases hr
 cases hr
omit hT in
theorem rJ.poke {k:Nat}{e:TypeId}{t:Ty}{l:List t.den}{m:Nat}(hk:qE H k=some (.row e t l m)) {b cap:Nat}(hcur:g.cur k m=some (.slice (some ⟨b,0,none⟩) m cap)) {i:Int}(h0:0<=i) (h1:i<(m:Int)) {o':Nat}{uT:Ty}{y:uT.den}{z':t.den}(hset:sD uT y t (qR t l i) o'=some z') {u:pU}(hy:Rd g w uT y [u]):
  rJ g w H ⟨[],(.any,none),[(k,.row e t (l.set i.toNat z') m)],[]⟩ (g.tok k m (.slice (some ⟨b,0,none⟩) m cap)) (w.setCells b (i.toNat*t.cells+o') [u]) undef:=by
 obtain⟨hl,v0,xs,hv0,hown,hF,hnone,hseal⟩:=hH.blk k _ hk;rw[hcur] at hv0;obtain rfl:=aRY hv0;have hi:i.toNat<l.length:=by rw[hl];omega
 obtain⟨c1,c2,c3,e1,e2,e3,e4⟩:=SX hF (a95 h0 hi);obtain⟨d1,d2,d3,f1,f2,f3,f4⟩:=NW hy e4 hset;rcases hown.2 with⟨h5,_⟩ |⟨q,cap',cur,h5,_,hg,hnc,hcm,hcs,htake⟩
 .cases h5
 simp only[aTk,aRV,Addr.mk.injEq,and_true,true_and] at h5;obtain⟨rfl,rfl⟩:=h5;have hxl:=hown.1;have hnew:=sJ f4;have hyl:=sJ hy;simp only[aRX,aS5] at hnew hyl;have hd:d1.length+d2.length+d3.length=t.cells:=by rw[<-e3,f1];simp only[aRX]
 have hx1:c1.length+c2.length+c3.length=m*t.cells:=by rw[<-hxl,e1];simp only[aRX]
 have hall:cur.toList=(c1++(d1++d2++d3)++c3)++cur.toList.drop (m*t.cells):=by
  conv=>lhs;rw[<-aTh (m*t.cells) cur.toList,htake,e1,f1]
 obtain⟨D,hD⟩: ∃D,D=cur.toList.drop (m*t.cells):=⟨_,rfl⟩;rw[<-hD] at hall;obtain⟨x2,rfl⟩: ∃x2,d2=[x2]:=aSV.1 pI;have hall2:cur.toList=(c1++d1)++(x2::(d3++c3++D)):=by rw[hall];simp only[aR9,List.cons_append,List.nil_append]
 have hpos:i.toNat*t.cells+o'=(c1++d1).length:=by rw[aRX,e2,f2]
 have hw:w.setCells b (i.toNat*t.cells+o') [u]=w.setRow b ((c1++(d1++[u]++d3)++c3)++D).toArray:=by
  show w.setCell ⟨b,i.toNat*t.cells+o',none⟩ u=_;rw[setCell_eq_setRow w b _ cur e (0,0) u hg];congr 1;apply aSO.1;rw[Array.toList_setIfInBounds,hall2,hpos,List.set_append_right _ _ (aSl _),aTt,List.set_cons_zero];simp only[aR9,List.cons_append,List.nil_append]
 have hnewlen:((c1++(d1++[u]++d3)++c3)++D).length=cur.size:=by
  have:cur.size=cur.toList.length:=by simp
  rw[this,hall];simp only[aRX,aS5]
 have hxs':(c1++(d1++[u]++d3)++c3).length=m*t.cells:=by
  rw[<-hx1,f1];simp only[aRX,aS5]
 have hown':(w.setRow b ((c1++(d1++[u]++d3)++c3)++D).toArray).ownsRow 0 e t.cells (.slice (some ⟨b,0,none⟩) m cap) m (c1++(d1++[u]++d3)++c3):=
  ⟨hxs',.inr ⟨b,cap,_,rfl,aS3 _,aTS w b cur _ e _ hg,hnc,hcm,by rw[aSI,hnewlen,hcs],by rw[<-hxs'];exact aTp⟩⟩
 have hF':tG (Rd g w t) t.cells (l.set i.toNat z') (c1++(d1++[u]++d3)++c3):=by
  obtain⟨q1,q2,q3,r1,r2,r3,r4⟩:=SZ hF f4 (sJ f4) hi;have s1:q1=c1/\q2=c2/\q3=c3:=by
   have h6:q1++(q2++q3)=c1++(c2++c3):=by rw[<-aR9,<-r1,e1,aR9]
   obtain⟨h7,h8⟩:=aTl h6 (by rw[r2,e2]);obtain⟨h9,h10⟩:=aTl h8 (by rw[r3,e3]);exact⟨h7,h9,h10⟩
  obtain⟨rfl,rfl,rfl⟩:=s1;exact r4
 have hownk: ∀o,sI g H [k] b o:=fun o=>⟨k,_,by simp,hk,_,hcur,rfl⟩;rw[hw];refine rJ.row (v:= .slice (some ⟨b,0,none⟩) m cap) hH (by rw[List.length_set];exact hl) hown' hF' hnone (fun u hu=>by rw[hcur] at hu;exact(aRY hu).symm)
  (.inr ⟨some b,⟨rfl,rfl,rfl,by simp,fun q _ hq=>aTs w b q _ (fun e=>hq (by rw[e]))⟩,fun b' hb' o=>by cases hb';exact hownk o⟩) (fun b' o hS=>?_) hseal (fun b' hb'=>by cases hb';exact .inr hownk) ⟨trivial,trivial⟩
 have hne:b'≠b:=fun e=>hseal b rfl o (e▸hS);exact aSh (a:=⟨b',o,none⟩) (aTs w b b' _ hne)
omit hT in
theorem rJ.below {w1:pT}(h:Below w.heap.size w w1):rJ g w H ⟨[],(.any,none),[],[]⟩ g w1 undef:=by
 have le:Le g w g w1:=⟨fun _ _ h=>h,fun b o hS=>aSh (a:=⟨b,o,none⟩) (h.block b (hH.sl b o hS)),fun _ _ h=>h,fun _ _ _ h=>h⟩;have fr:Fr (sI g H (qH [])) w w1 g.S g.S:=⟨h.os,h.tape,h.output,h.size,fun b hb _=>h.block b hb,fun b o hb _=>⟨aSh (a:=⟨b,o,none⟩) (h.block b hb),aSA (a:=⟨b,o,none⟩) (h.block b hb)⟩,fun _ _ h=> .inl h,fun b s hs=> .inl ((A3 (h.block b (A2 hs))).trans hs)⟩;exact⟨le,⟨trivial,trivial⟩,hH.upd le fr (fun _ _ _ _ hi=>(by cases hi)) (fun _ _=>⟨rfl,rfl⟩) (fun _ _ hi=>(by cases hi)) (fun _ _ _ _ _ _ hi=>(by cases hi)) (fun b o hS=>aSv (hH.sl b o hS) h.size),fr,fun _ _ _ _ hi=>(by cases hi),fun _ _=>⟨rfl,rfl⟩,fun _ _ y us h=> .inl ⟨y,us,h⟩⟩
theorem aAr {t:Ty}{n:Nat}{ev:Operand->pU}{ρ:Operand->qC}: ∀(ps:List (Nat×Operand)) (l z:List t.den) (cs:pP),tG (Rd g w t) t.cells l cs->l.length=n->(∀q∈ps,rN g w (ρ q.2) (ev q.2))->zS t n (some l) (tP ρ ps)=some z->
  ∃cs',Instr.fill (fun i=>some (i*t.cells,t.cells)) cs.toArray (ps.map fun q=>(q.1,ev q.2))=some cs'.toArray/\tG (Rd g w t) t.cells z cs'/\z.length=n
 |[],l,z,cs,r,hl,_,h=>by
  simp only[tP,zS,aRV] at h;subst h;exact⟨cs,rfl,r,hl⟩
 |(i,q)::ps,l,z,cs,r,hl,hq,h=>by
  have h0:=hq (i,q) pK;generalize hs:ρ q=s at h0;simp only[tP,hs] at h;obtain⟨d,k⟩:=s;cases d with
  |val u y=>
   simp only[zS,a82] at h;by_cases hc:u=t/\i<n
   .rw[aTE hc] at h;obtain⟨rfl,hi⟩:=hc;simp only[tJ] at h;have hR:=CY h0.1;obtain⟨c1,c2,c3,rfl,h2,h3,h4⟩:=SZ (i:=i) r hR (sJ hR) pI;obtain⟨cs',k1,k2,k3⟩:=aAr ps (l.set i y) z _ h4 (by simpa using hl) (fun q hq'=>hq q (by simp [hq'])) h;refine⟨cs',?_,k2,k3⟩;simp only[aS0];rw[a90 rfl (by have:=sJ hR;simpa using this) (c1:=c1) (c2:=c2) (c3:=c3) pK h2 h3];exact k1
   .rw[aS8 hc] at h;cases ps with
    |nil=>simp [tP,zS] at h
    |cons p ps=>simp [tP,zS] at h
  |_=>simp [zS] at h
theorem YO {t:TypeId}{n:Nat}{ps:Array (Nat×Operand)}(ho:o.op= .buildSlice t n ps) {ρ:Operand->qC}(hρ: ∀q∈ps.toList,rN g w (ρ q.2) (a.eval q.2)) {u:Ty}{el:TypeId}{by':Nat}{ar:Bool}{ls:List (Nat×TypeId×Nat)}(hst:rS T t=some ⟨.list u,el,by',ar,ls⟩) {l:List u.den}
  (hb:zS u n (some (B8 u n)) (tP ρ ps.toList)=some l) (hn:n<=16777216/\n*u.cells<=16777216):
  ∃cs':pP,tG (Rd g w u) u.cells l cs'/\l.length=n/\(execOp a.eval o).run P w= .ok (.value (.slice (some ⟨w.heap.size,0,none⟩) n n)) (w.alloc (.cells cs'.toArray el)):=by
    obtain⟨h2,h3,_⟩:=(sL hT hst).2;obtain⟨ei,hei,hz⟩:=aR8.1 h3;simp only[aSp] at hz;obtain⟨cs',k1,k2,k3⟩:=aAr hT hH ps.toList (B8 u n) l _ (aAe n) (aAf u n) hρ hb;refine⟨cs',k2,k3,?_⟩;have hzc:(wS u).cells=(tM u).toArray:=by
     unfold wS;cases h:u<;>simp [Ty.isRow,tM,Value.cells]
    have hmap:(ps.map fun(q:Nat×Operand)=>(q.1,a.eval q.2)).toList=ps.toList.map fun q=>(q.1,a.eval q.2):=by simp
    have hzl:(tM u).length=u.cells:=sJ (BT g w u);have hrow: ∀z:Array pU,(n*u.cells≠0->z=(tM u).toArray)->(Array.range (n*u.cells)).map (fun i=>z[i%z.size]!)=(List.flatten (List.replicate n (tM u))).toArray:=by
     intro z hz0;by_cases h0:n*u.cells=0
     .rw[h0];have:List.flatten (List.replicate n (tM u))=[]:=aSq (by simp [hzl,h0]);rw[this];simp
     rw[hz0 h0];have hpos:0<u.cells:=Nat.pos_of_ne_zero (fun h=>h0 (by rw[h];simp));apply aSO.1;apply List.ext_getElem?;intro j;have key: ∀(m j:Nat),j<m*u.cells->(List.flatten (List.replicate m (tM u)))[j]? =(tM u)[j%u.cells]? :=by
      intro m
      induction m with
      |zero=>intro j h;simp at h
      |succ m ih=>
       intro j h;rw[List.replicate_succ,aTG];by_cases hj:j<u.cells
       .rw[aSc pI,Nat.mod_eq_of_lt hj]
       rw[aR5 pI,hzl,ih (j-u.cells) (by rw[aSR] at h;omega)];congr 1
       conv=>rhs;rw[<-Nat.sub_add_cancel (Nat.le_of_not_lt hj),Nat.add_mod_right]
     by_cases hj:j<n*u.cells
     .have hm:j%u.cells<(tM u).length:=by rw[hzl];exact Nat.mod_lt _ hpos
      simp only[Array.toList_map,Array.toList_range,List.getElem?_map,List.getElem?_range hj,Option.map_some,aSI,hzl];rw[key n j hj,aR3 hm];simp [getElem!_pos,hm]
     rw[aS6 pL,aS6 (by simp [hzl];omega)]
    have hlim: ¬(n*u.cells>2^24):=by have:=hn.2;omega
    by_cases h0:n*u.cells=0
    .simp only[execOp,ho,Instr.buildSlice,aR6,aSg h2,aR0,sizeOf,typeInfo,aSH,hei,hz.1,aSm,aR4 hlim,aRZ h0];rw[hrow #[] (fun h=>absurd h0 h),hmap,k1];simp only[newRow,aR6,run_newObj,aR0,aSm];rfl
    simp only[execOp,ho,Instr.buildSlice,aR6,aSg h2,aR0,sizeOf,typeInfo,aSH,hei,hz.1,aSm,aR4 hlim,aR4 h0,zeroValue,hz.2.2,hzc];rw[hrow (tM u).toArray (fun _=>rfl),hmap,k1];simp only[newRow,aR6,run_newObj,aR0,aSm];rfl
theorem aJD {t:TypeId}{n:Nat}{ps:Array (Nat×Operand)}(ho:o.op= .buildSlice t n ps) {ρ:Operand->qC}(hρ: ∀q∈ps.toList,rN g w (ρ q.2) (a.eval q.2)) {base:Nat}{e:qP}(hr:WP base n (tP ρ ps.toList) (rS T t)=some e) (hf:wT g base e):rG P o a g w H e:=by
 generalize hst:rS T t=ot at hr;unfold WP at hr;split at hr
 .rename_i u el by' ls_;split at hr
  .rename_i hn0;generalize hb:zS u n (some (B8 u n)) (tP ρ ps.toList)=ol at hr;cases ol with
   |none=>cases hr
   |some l=>
    simp only[a9i] at hr;split at hr
    .rename_i hn;cases hr;obtain⟨cs',k2,k3,hrun⟩:=YO hT hH ho hρ hst hb hn.2;have hfr:=(hf base (by simp [qH]) (aSl _)).2;have hlen:=IJ k2;have hown:(w.alloc (.cells cs'.toArray el)).ownsRow 0 el u.cells (.slice (some ⟨w.heap.size,0,none⟩) n n) n cs':=⟨by rw[hlen,k3],.inr ⟨w.heap.size,n,cs'.toArray,rfl,aS3 _,aTO w _,aSl _,by unfold maxLen;omega,by simp [hlen,k3],by simp [<-k3,<-hlen]⟩⟩;refine rG.value hrun (rJ.row (v:= .slice (some ⟨w.heap.size,0,none⟩) n n) (xs:=cs') hH k3 hown k2 (fun m _=>hfr m) (fun u hu=>by rw[hfr] at hu;cases hu) (.inl (World.grownBy_alloc w _ _)) (fun b o h=>aSh (a:=⟨b,o,none⟩) (aSr _ _ _ (hH.sl b o h))) (fun b hb o hs=>?_) (fun b hb=>?_) ⟨⟨by simp [Gh.tok],.inr ⟨_,_,rfl,aSl _⟩⟩,trivial⟩)
     .cases hb;exact aTv _ (hH.sl _ _ hs)
     cases hb;exact .inl (aSl _)
    cases hr
  rename_i hn0;generalize hb:zS u n (some (B8 u n)) (tP ρ ps.toList)=ol at hr;cases ol with
  |none=>cases hr
  |some l=>
   simp only[RH] at hr;split at hr
   .rename_i hn;cases hr;obtain⟨cs',k2,k3,hrun⟩:=YO hT hH ho hρ hst hb hn;have hfr:=hf base (by simp [qH]) (aSl _);exact rG.value (v:= .slice (some ⟨w.heap.size,0,none⟩) n n) (w':=w.alloc (.cells cs'.toArray el)) hrun (rJ.lit hH rfl k3 k2 (by unfold maxLen;omega) hfr.2)
   cases hr
 .rename_i u el by' ls_;generalize hb:zS u n (some (B8 u n)) (tP ρ ps.toList)=ol at hr;cases ol with
  |none=>cases hr
  |some l=>
   simp only[RH] at hr;split at hr
   .rename_i hn;cases hr;obtain⟨cs',k2,k3,hrun⟩:=YO hT hH ho hρ hst hb hn;have hfr:=hf base (by simp [qH]) (aSl _);exact rG.value (v:= .slice (some ⟨w.heap.size,0,none⟩) n n) (w':=w.alloc (.cells cs'.toArray el)) hrun (rJ.lit hH rfl k3 k2 (by unfold maxLen;omega) hfr.2)
   cases hr
 cases hr
theorem aJE {args:Array Operand}{tys:Array TypeId}(ho:o.op= .call ⟨.builtin .append,args,tys⟩) {ρ:Operand->qC}(hρ: ∀x∈args.toList,rN g w (ρ x) (a.eval x)) {e:qP}
  {t:TypeId}(htt:tys= #[t,t]) (hr:S4 H (rS T t) (uO ρ args.toList)=some e) (hs: ∀p∈e.side,p):rG P o a g w H e:=by
 subst htt;generalize hst:rS T t=ot at hr;generalize hss:uO ρ args.toList=ss at hr;unfold S4 at hr;split at hr
 .rename_i u el by' ar ls_ k n _ b1 r _;split at hr
  .rename_i hbu;subst hbu;generalize hk:qE H k=ob at hr;unfold S3 at hr;split at hr
   .rename_i e' t' l m;split at hr
    .rename_i hbt;subst hbt;split at hr
     .rename_i hec;obtain⟨rfl,hpos,hb1⟩:=hec;simp only[tJ] at hr;cases hr;have hnm:=hs _ (by simp:(n=m)∈_);subst hnm;have hby:=hs _ (by simp:((n+List.length r)*by'<=140737488355328)∈_);obtain⟨v,vr,hv,hs1,hs2⟩:=SW hT hH hρ hss;obtain⟨h2,h3,_⟩:=(sL hT hst).2;obtain⟨ei,hei,hz⟩:=aR8.1 h3;simp only[aSp] at hz;obtain⟨cs,hx⟩:=E8 (a:=a) hT hH ho;obtain⟨hl,v0,xs,hv0,hown,hF0,hnone,hseal⟩:=hH.blk k _ hk;obtain⟨hcur,hshape⟩:=hs1.1;rw[hv0] at hcur;obtain rfl:=aRY hcur;obtain⟨adr,capr,hvr,hler,hlr⟩:=BU hs2.1;have hlen2:(l++r).length=n+List.length r:=by rw[aRX,hl]
      rw[hlen2];have hownk: ∀q,v0.ownBlock=some q->∀o,sI g H [k] q o:=fun q hq o=>⟨k,_,by simp,hk,v0,hv0,hq⟩;by_cases hm:List.length r=0
      .obtain rfl:r=[]:=aSq hm;refine rG.value (v:=v0) (w':=w) ?_ (rJ.row (v:=v0) (xs:=xs) hH hlen2 hown (by rw[List.append_nil];exact hF0) hnone (fun u hu=>by
        have h5:g.cur k n=some u:=hu;rw[hv0] at h5;exact(aRY h5).symm) (.inl ⟨rfl,rfl,rfl,aSl _,fun _ _ _=>rfl⟩) (fun _ _ _=>rfl) hseal (fun q hq=> .inr (hownk q hq)) ⟨⟨by simp [Gh.tok],hshape⟩,trivial⟩)
       obtain⟨adl,capl,hvl,hlel⟩: ∃adl capl,v0= .slice adl n capl/\n<=capl:=by
        rcases hshape with⟨h,rfl⟩ |⟨b,cap,h,h'⟩
        .exact⟨_,_,h,aSl _⟩
        exact⟨_,_,h,h'⟩
       rw[hx,hv,hvr,hvl];have ha0:(#[Value.slice adl n capl,Value.slice adr (List.length ([]:List b1.den)) capr]:Array pU)[0]? =some (.slice adl n capl):=rfl;have ha1:(#[Value.slice adl n capl,Value.slice adr (List.length ([]:List b1.den)) capr]:Array pU)[1]? =some (.slice adr 0 capr):=rfl;have ht0:(#[t,t]:Array TypeId)[0]? =some t:=rfl;have ht1:(#[t,t]:Array TypeId)[1]? =some t:=rfl;simp only[builtin,Builtin.append_,ht0,ht1,ha0,ha1,aR6,aSg h2,aR0,aSm,sizeOf,typeInfo,aSH,hei];cases adr<;>cases adl<;>simp [Builtin.lenOf,Builtin.firstCells,loadCells,loadCellsFrom,storeCells,hlel]
      obtain⟨b,off,rfl,hL⟩: ∃b o,adr=some ⟨b,o,none⟩/\x4 (Rd g w b1) w g.S b1.cells b o r:=by
       rcases hlr with rfl|h
       .exact absurd rfl hm
       exact h
      obtain⟨news,hF,hra,_⟩:=O1 hL;obtain⟨q,cap,w',hrun,hown',hq,hg,hcap,hcell⟩:=aAg (P:=P) w t o.type e' ei (wS b1) b1.cells by' h2 hei hz.2.2 hz.1 hz.2.1 (by
       have:=sJ (CY (IN g w b1));simpa using this) v0 n xs hown ⟨b,off,none⟩ (List.length r) capr news (IJ hF) (fun j u hu=>by rw[aSS];exact hra j u hu) (YC (fun _ _ h=>yJ h) hF) pI
       (by
        have:=Nat.mul_le_mul_left (n+List.length r) hb1;unfold maxLen;omega) hby
      refine rG.value (v:= .slice (some ⟨q,0,none⟩) (n+List.length r) cap) (w':=w') ?_ (rJ.row (v:= .slice (some ⟨q,0,none⟩) (n+List.length r) cap) (xs:=xs++news) hH hlen2 hown' (XY hF0 hF) (fun m hm'=>hnone m pI) (fun u hu=>by
       rw[hnone _ pI] at hu;cases hu) (.inr ⟨v0.ownBlock,hg,fun b hb o=>hownk b hb o⟩) (fun b o hS=>hcell b o (hH.sl b o hS) (fun hb=>absurd hS (hseal b hb o))) (fun b hb o hS=>?_) (fun b hb=>?_) ⟨⟨by simp [Gh.tok],.inr ⟨q,cap,rfl,hcap⟩⟩,trivial⟩)
      .rw[hx,hv,hvr];simp only[builtin,aR6,hrun,aR0,aSm]
      .cases hb;rcases hq with h|h
       .rw[h] at hS;exact aTv _ (hH.sl _ _ hS)
       exact hseal _ h o hS
      cases hb;rcases hq with h|h
      .exact .inl (aTg h.symm)
      exact .inr (hownk _ h)
     cases hr
    cases hr
   cases hr
  cases hr
 .rename_i u el by' ar ls_ a1 l k b1 r k2;split at hr
  .rename_i hab;obtain⟨rfl,rfl⟩:=hab;simp only[tJ] at hr;generalize hk:qE H k=ob at hr;unfold S2 at hr;split at hr
   .rename_i e' c n;split at hr
    .rename_i hec;obtain⟨rfl,hcc,hpos,hb1⟩:=hec;cases hr;rw[aRX];have hln:=hs _ (by simp:(List.length l=n)∈_);have hby:=hs _ (by simp:((List.length l+List.length r)*by'<=140737488355328)∈_);obtain⟨v,vr,hv,hs1,hs2⟩:=SW hT hH hρ hss;obtain⟨h2,h3,_⟩:=(sL hT hst).2;obtain⟨ei,hei,hz⟩:=aR8.1 h3;simp only[aSp] at hz;obtain⟨cs,hx⟩:=E8 (a:=a) hT hH ho;obtain⟨v0,xs,hv0,hown,hnone,hseal⟩:=hH.blk k _ hk;have hcur:g.cur k (List.length l)=some v:=hs1.2;rw[hln,hv0] at hcur;obtain rfl:=aRY hcur;obtain⟨adr,capr,hvr,hler,hlr⟩:=BU hs2.1;obtain⟨adl,capl,hvl,hlel,hll⟩:=BU hs1.1;by_cases hm:List.length r=0
     ·
      obtain rfl:r=[]:=aSq hm;have hlr:List.length l+List.length ([]:List b1.den)=n:=by rw[hln];rfl
      have hget: ∀i,qE (qT [(k,qB.grow e' c (List.length l+List.length ([]:List b1.den)))] H) i=qE H i:=by
       intro i;simp only[qT,qE];by_cases hi:k=i
       .subst hi;rw[aRZ rfl,hlr];exact hk.symm
       rw[aR4 hi]
      have hkeep:rJ g w H ⟨[List.length l=n,(List.length l+List.length ([]:List b1.den))*by'<=140737488355328],(.val (.list b1) (l++[]),some k),[(k,.grow e' c (List.length l+List.length ([]:List b1.den)))],[k]⟩ g w v0:=by
       refine⟨.refl _ _,?_,⟨fun i b h=>hH.blk i b ((hget i).symm.trans h),fun i j bi bj b o' hij h1 h2=>hH.dis i j bi bj b o' hij ((hget i).symm.trans h1) ((hget j).symm.trans h2),hH.sl,hH.tab.1,fun i blk b o' h ho'=>hH.tab.2 i blk b o' ((hget i).symm.trans h) ho'⟩,.refl _ _ _,fun i blk b o' hi hg ho'=> .inr ⟨i,blk,hi,(hget i).symm.trans hg,ho'⟩,fun _ _=>⟨rfl,rfl⟩,fun i u' y us h=> .inl ⟨y,us,(hget i).symm.trans h⟩⟩;rw[List.append_nil];exact hs1
      refine rG.value (v:=v0) (w':=w) ?_ hkeep;rw[hx,hv,hvr,hvl];have ha0:(#[Value.slice adl (List.length l) capl,Value.slice adr (List.length ([]:List b1.den)) capr]:Array pU)[0]? =some (.slice adl (List.length l) capl):=rfl;have ha1:(#[Value.slice adl (List.length l) capl,Value.slice adr (List.length ([]:List b1.den)) capr]:Array pU)[1]? =some (.slice adr 0 capr):=rfl;have ht0:(#[t,t]:Array TypeId)[0]? =some t:=rfl;have ht1:(#[t,t]:Array TypeId)[1]? =some t:=rfl;simp only[builtin,Builtin.append_,ht0,ht1,ha0,ha1,aR6,aSg h2,aR0,aSm,sizeOf,typeInfo,aSH,hei];cases adr<;>cases adl<;>simp [Builtin.lenOf,Builtin.firstCells,loadCells,loadCellsFrom,storeCells,hlel]
     obtain⟨b,off,rfl,hL⟩: ∃b o,adr=some ⟨b,o,none⟩/\x4 (Rd g w b1) w g.S b1.cells b o r:=by
      rcases hlr with rfl|h
      .exact absurd rfl hm
      exact h
     obtain⟨news,hF,hra,_⟩:=O1 hL;have hxs:tG (Rd g w b1) b1.cells l xs:=by
      by_cases h0:List.length l=0
      .obtain rfl:l=[]:=aSq h0;have:xs=[]:=aSq (by rw[hown.1,<-hln];simp);exact this
      rcases hll with rfl|⟨b0,off0,rfl,hL0⟩
      .exact absurd rfl h0
      obtain⟨ls,hF0,hra0,_⟩:=O1 hL0;rcases hown.2 with⟨e1,e2⟩ |⟨q,cap,cur,e1,e2⟩
      .exact absurd (hln.trans e2) h0
      rw[hvl] at e1;simp only[aTk,aRV,Addr.mk.injEq] at e1;obtain⟨⟨rfl,rfl,_⟩,_,rfl⟩:=e1;have hvn:v0= .slice (some ⟨b0,0,none⟩) n capl:=by rw[hvl,hln]
      have hrx:=YD (hvn▸hown);have:ls=xs:=by
       have hl1:=IJ hF0;have hl2:=hown.1;apply List.ext_getElem?;intro j;by_cases hj:j<ls.length
       .have h1:=hra0 j ls[j] (aR3 hj);have hj':j<xs.length:=by rw[hl2,hcc,<-hln,<-hl1];exact hj
        have h2:=hrx j xs[j] (aR3 hj');rw[h1] at h2;rw[aR3 hj,aR3 hj',aRY h2]
       rw[aS6 pI,aS6 (by rw[hl2,hcc,<-hln,<-hl1];omega)]
      rw[<-this];exact hF0
     obtain⟨q,cap,w',hrun,hown',hq,hg,hcap,hcell⟩:=aAg (P:=P) w t o.type e' ei (wS b1) c by' h2 hei hz.2.2 (by rw[hz.1,hcc]) hz.2.1 (by
      have:=sJ (CY (IN g w b1));rw[hcc];simpa using this) v0 n xs hown ⟨b,off,none⟩ (List.length r) capr news (by rw[IJ hF,hcc]) (fun j u hu=>by rw[aSS];exact hra j u hu) (YC (fun _ _ h=>yJ h) hF) pI
      (by
       have:=Nat.mul_le_mul_left (List.length l+List.length r) hb1;unfold maxLen;omega) (by rw[<-hln];exact hby)
     refine rG.value (v:= .slice (some ⟨q,0,none⟩) (n+List.length r) cap) (w':=w') ?_ (by
      have:=rJ.append (side:=[List.length l=n,(List.length l+List.length r)*by'<=140737488355328]) (rds:=[k]) hH hk hcc hln hv0 hown hnone hseal (hcc▸hxs) (hcc▸hF) pI hown' hq hg hcap hcell;rw[hln];rw[hln] at this;exact this)
     rw[hx,hv,hvr];simp only[builtin,aR6,hrun,aR0,aSm]
    cases hr
   cases hr
  cases hr
 cases hr
end
def yN:Ty->TypeDesc
 | .int k=> .int k
 | .str=> .string
 |_=> .bool
theorem YP {P:Program}{t:TypeId}{ti:TI}(h:sT P t ti) (hk:BR ti.ty=true):P.underlying t=some (yN ti.ty):=by
 have h2:=h.2;unfold w9 at h2;obtain⟨ty,el,by',ar,ls⟩:=ti;cases ty<;>simp only[BR,aTq] at hk<;>exact h2
theorem aJF {g:Gh}{w:pT}{k:Ty}(hk:BR k=true) {a x:k.den}{v u:pU}(ha:sR g w k a v) (hx:sR g w k x u):Instr.sameNow (yN k) v u=some (DY k a x)/\(DY k a x=true->u=v):=by
 cases k with
 |int k=>
  rw[uZ ha,uZ hx];simp only[yN,Instr.sameNow,aTf,DY];refine⟨?_,fun h=>?_⟩
  .congr 1
  .rw[aSD h]
 |str=>
  rw[vM ha,vM hx];simp only[yN,Instr.sameNow,DY];refine⟨?_,fun h=>?_⟩
  .congr 1;rw[aTm,MapKept.bytes_beq,aSi];constructor
   .intro h;have:=aSk (fun z:ByteArray=>z.data.toList) h;simpa using this
   intro h;rw[h]
  .rw[aSD h]
 |bool=>
  rw[uJ ha,uJ hx];simp only[yN,Instr.sameNow,DY];refine⟨trivial,fun h=>?_⟩;rw[aTP.1 h]
 |_=>simp [BR] at hk
theorem YQ {g:Gh}{w:pT}{k v:Ty}(hk:BR k=true) {a:k.den}{key:pU}(ha:sR g w k a key): ∀{l:List (k.den×v.den)}{es:List MapEntry}(i:Nat),BS g w k v l es->
  (CW k v l a=false->Instr.findNow (yN k) key es i=some none/\uA k v l a=v.zero/\∀b val born,sR g w v b val->BS g w k v (tU k v a b l) (es++[⟨key,val,born⟩]))/\
  (CW k v l a=true->∃j e,es[j]? =some e/\Instr.findNow (yN k) key es i=some (some (i+j,e.val))/\sR g w v (uA k v l a) e.val/\e.key=key/\∀b val,sR g w v b val->BS g w k v (tU k v a b l) (es.modify j fun e=>{e with key:=key,val:=val}))
 |[],es,i,h=>by
  rw[show es=[] from h];exact⟨fun _=>⟨rfl,rfl,fun b val born hb=>⟨_,[],rfl,ha,hb,rfl⟩⟩,fun h=>by simp [CW] at h⟩
 |(x,y)::l,_,i,⟨e,es',rfl,h1,h2,h3⟩=>by
  obtain⟨s1,s2⟩:=aJF hk ha h1;cases hq:DY k a x with
  |true=>
   rw[hq] at s1;refine⟨fun h=>by simp [CW,hq] at h,fun _=>⟨0,e,rfl,?_,?_,s2 hq,fun b val hb=>?_⟩⟩
   .simp only[Instr.findNow,s1,aSM]
   .simp only[uA,hq,aTf];exact h2
   .simp only[tU,hq,aTf];exact⟨_,es',rfl,ha,hb,h3⟩
  |false=>
   rw[hq] at s1;obtain⟨f1,f2⟩:=YQ (v:=v) hk ha (i+1) h3;refine⟨fun h=>?_,fun h=>?_⟩
   .simp only[CW,hq] at h;obtain⟨g1,g2,g3⟩:=f1 (by simpa using h);refine⟨by simp only[Instr.findNow,s1];exact g1,by simp only[uA,hq];simpa using g2,fun b val born hb=>?_⟩;simp only[tU,hq];exact⟨e,_,rfl,h1,h2,g3 b val born hb⟩
   simp only[CW,hq] at h;obtain⟨j,e',g1,g2,g3,g4,g5⟩:=f2 (by simpa using h);refine⟨j+1,e',by simpa using g1,by simp only[Instr.findNow,s1];rw[g2];congr 3;omega,by simp only[uA,hq];simpa using g3,g4,fun b val hb=>?_⟩;simp only[tU,hq];exact⟨e,_,rfl,h1,h2,g5 b val hb⟩
def IS (ok:Bool) (z:pU):Option (Nat×pU)->pU
 |some (_,v)=>if ok then .tuple #[v,.bool true] else v
 |none=>if ok then .tuple #[z,.bool false] else z
section
variable {P:Program}{o:Oper}{a:Act}{g:Gh}{w:pT}{H:rZ}{T:sG}(hT:wA P T) (hH:sA g w H)
include hT hH
theorem rJ.newMap {side:List Prop}{rds:pS}{base:Nat}{k v:Ty}(hf:g.J base=none) (hc:g.cur base=fun _=>none):
  rJ g w H ⟨side,(.val .mp (some base),none),[(base,.map k v [])],rds⟩ (g.var base w.heap.size none) (w.alloc (.map #[] 0)) (.map (some w.heap.size)):=by
 have hJ:(g.var base w.heap.size none).J base=some ⟨w.heap.size,0,none⟩:=by simp [Gh.var]
 have le:Le g w (g.var base w.heap.size none) (w.alloc (.map #[] 0)):=⟨fun _ _ h=>h,fun b o h=>aSh (a:=⟨b,o,none⟩) (aSr _ _ _ (hH.sl b o h)),fun i p h=>by
  show (if i=base then _ else _)=_;rw[aR4 (fun e1=>by rw[e1,hf] at h;cases h)];exact h,fun _ _ _ h=>h⟩
 have fr:Fr (sI g H (qH [(base,qB.map k v [])])) w (w.alloc (.map #[] 0)) g.S (g.var base w.heap.size none).S:=
  ⟨rfl,rfl,rfl,by simp,fun b hb _=>aSr _ _ _ hb,fun b o hb _=>⟨aSh (a:=⟨b,o,none⟩) (aSr _ _ _ hb),aSA (a:=⟨b,o,none⟩) (aSr _ _ _ hb)⟩,fun b o h=> .inl h,fun b s h=> .inl ((A3 (aSr _ _ _ (A2 h))).trans h)⟩
 have gho: ∀i,i∉qH [(base,qB.map k v [])]->(g.var base w.heap.size none).J i=g.J i/\(g.var base w.heap.size none).cur i=g.cur i:=fun i hi=>⟨by
  show (if i=base then _ else _)=_;rw[aR4 (fun e1=>hi (by simp [qH,e1]))],rfl⟩
 have get: ∀i blk,i∈qH [(base,qB.map k v [])]->qE (qT [(base,qB.map k v [])] H) i=some blk->i=base/\blk= .map k v []:=by
  intro i blk hi hg;simp only[qH,aSd] at hi;subst hi;simp only[qT,qE,aTf,aRV] at hg;exact⟨rfl,hg.symm⟩
 have perm: ∀i blk b o,i∈qH [(base,qB.map k v [])]->qE (qT [(base,qB.map k v [])] H) i=some blk->s6 (g.var base w.heap.size none) i blk b o->w.heap.size<=b\/sI g H (qH [(base,qB.map k v [])]) b o:=by
  intro i blk b o hi hg ho;obtain⟨rfl,rfl⟩:=get i blk hi hg;obtain⟨p,hp,h1⟩:=ho;rw[hJ] at hp;obtain rfl:=aRY hp;exact .inl (aTg h1.symm)
 refine⟨le,⟨.inr ⟨rfl,_,hJ,rfl⟩,trivial⟩,hH.upd le fr perm gho (fun i blk hi hg=>?_) (fun i j bi bj b o hi hj hij hgi hgj _ _=>hij ((get i bi hi hgi).1.trans (get j bj hj hgj).1.symm)) (fun b o h=>aSv (hH.sl b o h) pK),fr,perm,gho,fun i u' y us h=>by
  simp only[qT,qE] at h;split at h
  .cases h
  exact .inl ⟨y,us,h⟩⟩
 obtain⟨rfl,rfl⟩:=get i blk hi hg;refine⟨⟨w.heap.size,0,none⟩,#[],0,hJ,rfl,?_,rfl,fun o hs=>aTv _ (hH.sl _ _ hs)⟩;show (w.heap.push (.map #[] 0))[w.heap.size]? =_;rw[aTD]
theorem aJG {t:TypeId}{r:Option Operand}(ho:o.op= .makeMap t r) {base:Nat}{e:qP}(hr:XM T base (rS T t) r=some e) (hf:wT g base e):rG P o a g w H e:=by
 generalize hst:rS T t=ot at hr;unfold XM at hr;split at hr
 .rename_i el fl ar ls_;unfold a9x at hr;split at hr
  .split at hr
   .cases hr;have hfr:=hf base (by simp [qH]) (aSl _);refine rG.value (v:= .map (some w.heap.size)) (w':=w.alloc (.map #[] 0)) ?_ (rJ.newMap hT hH hfr.1 (funext hfr.2));unfold execOp;rw[ho];simp only[Instr.makeMap,aR6,run_newObj,aR0,aSm,Option.map_none];rfl
   cases hr
  cases hr
 cases hr
theorem aJH {xt el fl:TypeId}{ok:Bool}{r:Nat}{es:Array MapEntry}{cl:Nat}{key z res:pU}{kd:TypeDesc}(hm:P.underlying xt=some (.map el fl)) (hb:w.heap[r]? =some (.map es cl)) (hkd:P.underlying el=some kd) (hsim: ∀ty,kd≠.interface ty) (hna: ∀n t,kd≠.array n t) (hns: ∀f,kd≠.struct f)
  {q:Option (Nat×pU)}(hq:Instr.findNow kd key es.toList 0=some q) (hz:(zeroValue fl).run P w= .ok z w)
  (hres:res=IS ok z q):(Instr.lookup xt (.map (some r)) key ok).run P w= .ok res w:=by
 have hck: ∀em,(Instr.checkKey em 10000 el key).run P w= .ok () w:=by
  intro em;unfold Instr.checkKey;simp only[aR6,aSg hkd,aR0];cases kd<;>first|rfl|(exact absurd rfl (hsim _)) |(exact absurd rfl (hna _ _)) |(exact absurd rfl (hns _))
 have hfk:(Instr.findKey el key es.toList).run P w= .ok q w:=by
  unfold Instr.findKey;simp only[aR6,aSg hkd,aR0,hq,aSm]
 subst hres;unfold Instr.lookup;simp only[aR6,aSg hm,aR0,MapKept.run_getObj_map hb,aSm,hck,hfk];cases q with
 |none=>cases ok<;>simp [hz,aR6,aR0,IS]
 |some q=>cases ok<;>simp [aR6,aR0,IS]
theorem aJI {xt el fl:TypeId}{ok:Bool}{key z:pU}{kd:TypeDesc}(hm:P.underlying xt=some (.map el fl)) (hkd:P.underlying el=some kd) (hsim: ∀ty,kd≠.interface ty) (hna: ∀n t,kd≠.array n t) (hns: ∀f,kd≠.struct f)
  (hz:(zeroValue fl).run P w= .ok z w):(Instr.lookup xt (.map none) key ok).run P w= .ok (IS ok z none) w:=by
 have hck: ∀em,(Instr.checkKey em 10000 el key).run P w= .ok () w:=by
  intro em;unfold Instr.checkKey;simp only[aR6,aSg hkd,aR0];cases kd<;>first|rfl|(exact absurd rfl (hsim _)) |(exact absurd rfl (hna _ _)) |(exact absurd rfl (hns _))
 have hfk:(Instr.findKey el key ([]:List MapEntry)).run P w= .ok none w:=by
  unfold Instr.findKey;simp only[aR6,aSg hkd,aR0,Instr.findNow,aSm]
 unfold Instr.lookup;simp only[aR6,aSg hm,aR0,aSm,hck,hfk];cases ok<;>simp [hz,aR6,aR0,IS,hfk]
theorem rJ.updMap {side:List Prop}{rds:pS}{i:Nat}{k v:Ty}{l l':List (k.den×v.den)}{p:Pl}{es es':Array MapEntry}{cl cl':Nat}(hi:qE H i=some (.map k v l)) (hp:g.J i=some p) (hp0:p.2=0) (hb:w.heap[p.1]? =some (.map es cl)) (hS: ∀o,¬g.S p.1 o) (hM:BS g w k v l' es'.toList):
  rJ g w H ⟨side,(.any,none),[(i,.map k v l')],rds⟩ g {w with heap:=w.heap.setIfInBounds p.1 (.map es' cl')} undef:=by
 have hlt:p.1<w.heap.size:=(aSn.1 hb).1;have hoth: ∀b,b≠p.1->(w.heap.setIfInBounds p.1 (.map es' cl'))[b]? =w.heap[b]? :=fun b hne=>by rw[aSU (Ne.symm hne)]
 have hown: ∀o,sI g H (qH [(i,qB.map k v l')]) p.1 o:=fun o=>⟨i,_,by simp [qH],hi,p,hp,rfl⟩;have le:Le g w g {w with heap:=w.heap.setIfInBounds p.1 (.map es' cl')}:=⟨fun _ _ h=>h,fun b o h=>aSh (a:=⟨b,o,none⟩) (hoth b (fun e=>hS o (e▸h))),fun _ _ h=>h,fun _ _ _ h=>h⟩
 have fr:Fr (sI g H (qH [(i,qB.map k v l')])) w {w with heap:=w.heap.setIfInBounds p.1 (.map es' cl')} g.S g.S:=
  ⟨rfl,rfl,rfl,by simp,fun b _ hn=>hoth b (fun e=>hn 0 (e▸hown 0)),fun b o _ hn=>⟨aSh (a:=⟨b,o,none⟩) (hoth b (fun e=>hn (e▸hown o))),aSA (a:=⟨b,o,none⟩) (hoth b (fun e=>hn (e▸hown o)))⟩,fun b o h=> .inl h,fun b s h=>(by
   by_cases e:b=p.1
   .exact .inr fun o=>e▸hown o
   exact .inl ((A3 (hoth b e)).trans h))⟩
 have get: ∀j blk,j∈qH [(i,qB.map k v l')]->qE (qT [(i,qB.map k v l')] H) j=some blk->j=i/\blk= .map k v l':=by
  intro j blk hj hg;simp only[qH,aSd] at hj;subst hj;simp only[qT,qE,aTf,aRV] at hg;exact⟨rfl,hg.symm⟩
 have perm: ∀j blk b o,j∈qH [(i,qB.map k v l')]->qE (qT [(i,qB.map k v l')] H) j=some blk->s6 g j blk b o->w.heap.size<=b\/sI g H (qH [(i,qB.map k v l')]) b o:=by
  intro j blk b o hj hg ho;obtain⟨rfl,rfl⟩:=get j blk hj hg;obtain⟨q,hq,rfl⟩:=ho;rw[hp] at hq;obtain rfl:=aRY hq;exact .inr (hown o)
 refine⟨le,⟨trivial,trivial⟩,hH.upd le fr perm (fun _ _=>⟨rfl,rfl⟩) (fun j blk hj hg=>?_) (fun j j' bi bj b o hj hj' hij hgi hgj _ _=>hij ((get j bi hj hgi).1.trans (get j' bj hj' hgj).1.symm)) (fun b o h=>by simpa using hH.sl b o h),fr,perm,fun _ _=>⟨rfl,rfl⟩,fun j u' y us h=>by
  simp only[qT,qE] at h;split at h
  .cases h
  exact .inl ⟨y,us,h⟩⟩
 obtain⟨rfl,rfl⟩:=get j blk hj hg;exact⟨p,es',cl',hp,hp0,by simp [aTr,hlt],XX le hM,hS⟩
theorem aAs {i:Nat}{k:pR}{v:pU}(h:rN g w (.val .mp (some i),k) v): ∃p,g.J i=some p/\v= .map (some p.1):=by
 obtain⟨p,h1,e⟩:=wB rfl h.1;simp only[aSy,and_true] at e;exact⟨p,h1,e⟩
theorem YR {k:Ty}:(∀ty,yN k≠.interface ty)/\(∀n t,yN k≠.array n t)/\(∀f,yN k≠.struct f):=by
 cases k<;>exact⟨fun _ h=>by simp [yN] at h,fun _ _ h=>by simp [yN] at h,fun _ h=>by simp [yN] at h⟩
theorem aJJ {t:TypeId}{x y:Operand}{ok:Bool}(ho:o.op= .lookup t x y ok) {sx sy:qC}(hx:rN g w sx (a.eval x)) (hy:rN g w sy (a.eval y)) {e:qP}(hr:SC T H ok (rS T t) sx sy=some e):rG P o a g w H e:=by
 generalize hst:rS T t=ot at hr;unfold SC at hr;split at hr
 .rename_i el fl ar ls_ i kk;generalize hk:rS T el=ok1 at hr;generalize hv:rS T fl=ok2 at hr;unfold XN at hr;split at hr
  .rename_i kt vt k a' _;split at hr
   .rename_i hkt;unfold SB at hr;split at hr
    .rename_i k' v' l hb;split at hr
     .rename_i hkv;obtain⟨rfl,rfl⟩:=hkv;split at hr
      .rename_i hkey;obtain⟨p,es,cl,hp,hp0,hh,hM,hS⟩:=hH.blk i _ hb;obtain⟨p',hp',hxv⟩:=aAs hT hH hx;rw[hp] at hp';obtain rfl:=aRY hp';have hm:=(sL hT hst).2;simp only[w9] at hm;have hkd:=YP (sL hT hk) (hkt▸hkey);obtain⟨iv,hi1,hi2,hi3⟩:=BV (sL hT hv);have hz:(zeroValue fl).run P w= .ok (wS vt.ty) w:=by
        simp only[zeroValue,typeInfo,aR6,aSH,hi1,hi3,aR0,aSm]
       obtain⟨f1,f2⟩:=YQ (v:=vt.ty) hkey hy.1 0 hM;rw[<-hkt] at hkd;obtain⟨p1,p2,p3⟩:=YR hT hH (k:=k);have go: ∀{q res},Instr.findNow (yN k) (a.eval y) es.toList 0=some q->res=IS ok (wS vt.ty) q->(execOp a.eval o).run P w= .ok (.value res) w:=by
        intro q res h1 h2;unfold execOp;rw[ho];simp only[hxv,aR6,aJH hT hH hm hh hkd p1 p2 p3 h1 hz h2,aR0,aSm]
       cases hmh:CW k vt.ty l a' with
       |false=>
        obtain⟨g1,g2,_⟩:=f1 hmh;cases ok with
        |true=>
         cases hr;refine rG.pure hH (v:= .tuple #[wS vt.ty,.bool false]) (go g1 rfl) ?_;simp only[KN,hmh,g2];exact⟨[_,_],rfl,_,[_],rfl,IN g w _,trivial,_,[],rfl,uK g w false,trivial,rfl⟩
        |false=>
         cases hr;refine rG.pure hH (v:=wS vt.ty) (go g1 rfl) ?_;simp only[KN,g2];exact IN g w _
       |true=>
        obtain⟨j,e',g1,g2,g3,g4,g5⟩:=f2 hmh;cases ok with
        |true=>
         cases hr;refine rG.pure hH (v:= .tuple #[e'.val,.bool true]) (go g2 rfl) ?_;simp only[KN,hmh];exact⟨[_,_],rfl,_,[_],rfl,g3,trivial,_,[],rfl,uK g w true,trivial,rfl⟩
        |false=>
         cases hr;refine rG.pure hH (v:=e'.val) (go g2 rfl) ?_;simp only[KN];exact g3
      cases hr
     cases hr
    cases hr
   cases hr
  cases hr
 .rename_i el fl ar ls_ kk;generalize hk:rS T el=ok1 at hr;generalize hv:rS T fl=ok2 at hr;unfold a9y at hr;split at hr
  .rename_i kt vt k a' _;split at hr
   .rename_i hkt;split at hr
    .rename_i hkey;have hxv:a.eval x= .map none:=by
      have e1:=wB rfl hx.1;simpa[Rd,II] using e1
     have hm:=(sL hT hst).2;simp only[w9] at hm;have hkd:=YP (sL hT hk) (hkt▸hkey);obtain⟨iv,hi1,hi2,hi3⟩:=BV (sL hT hv);have hz:(zeroValue fl).run P w= .ok (wS vt.ty) w:=by
      simp only[zeroValue,typeInfo,aR6,aSH,hi1,hi3,aR0,aSm]
     rw[<-hkt] at hkd;obtain⟨p1,p2,p3⟩:=YR hT hH (k:=k);have go:(execOp a.eval o).run P w= .ok (.value (IS ok (wS vt.ty) none)) w:=by
      unfold execOp;rw[ho];simp only[hxv,aR6,aJI hT hH hm hkd p1 p2 p3 hz,aR0,aSm]
     cases ok with
     |true=>
      cases hr;exact rG.pure hH (v:= .tuple #[wS vt.ty,.bool false]) go ⟨[_,_],rfl,_,[_],rfl,IN g w _,trivial,_,[],rfl,uK g w false,trivial,rfl⟩
     |false=>
      cases hr;exact rG.pure hH (v:=wS vt.ty) go (IN g w _)
    cases hr
   cases hr
  cases hr
 cases hr
theorem aJK {g:Gh}{w:pT}{k:Ty}(hk:BR k=true) {x:k.den}{v:pU}(h:sR g w k x v) (n:Nat):Instr.sameBits n v v=true:=by
 cases k with
 |int k=>rw[uZ h];cases n<;>simp [Instr.sameBits]
 |str=>rw[vM h];cases n<;>simp [Instr.sameBits,MapKept.bytes_beq]
 |bool=>rw[uJ h];cases n<;>simp [Instr.sameBits]
 |_=>simp [BR] at hk
omit hT hH in
theorem aAt {T:sG}{ti:Option TI}{s:qC}{v:pU}(h:rN g w s v):rN g w (SE T ti s) v:=by
 unfold SE;split
 .unfold a9z;split
  .rename_i f x _;refine⟨.inr ⟨rfl,?_⟩,trivial⟩;rcases h.1 with⟨h1,_⟩ |⟨h1,vs,h2,h3⟩
   .cases h1
   rw[show vs=[] from h2] at h3;exact h3
  exact h
 exact h
theorem aAu {t:TypeId}{m x y:Operand}(ho:o.op= .mapUpdate t m x y\/o.op= .insert t m x y) {sm sx sy:qC}(hm:rN g w sm (a.eval m)) (hx:rN g w sx (a.eval x)) (hy:rN g w sy (a.eval y)) {e:qP}(hr:L4 T H (rS T t) sm sx sy=some e):rG P o a g w H e:=by
 generalize hst:rS T t=ot at hr;unfold L4 at hr;split at hr
 .rename_i el fl ar ls_ i kk;generalize hk:rS T el=ok1 at hr;unfold SD at hr;split at hr
  .rename_i kt k a' _ u b _;split at hr
   .rename_i hkt;unfold L3 at hr;split at hr
    .rename_i k' v' l hb;split at hr
     .rename_i hkv;obtain⟨rfl,rfl⟩:=hkv;split at hr
      .rename_i hkey;cases hr;obtain⟨p,es,cl,hp,hp0,hh,hM,hS⟩:=hH.blk i _ hb;obtain⟨p',hp',hxv⟩:=aAs hT hH hm;rw[hp] at hp';obtain rfl:=aRY hp';have hmt:=(sL hT hst).2;simp only[w9] at hmt;have hkd:=YP (sL hT hk) (hkt▸hkey);rw[<-hkt] at hkd;obtain⟨p1,p2,p3⟩:=YR hT hH (k:=k);have hck:(Instr.checkKey false 10000 el (a.eval x)).run P w= .ok () w:=by
        unfold Instr.checkKey;simp only[aR6,aSg hkd,aR0];generalize yN k=kd at p1 p2 p3;cases kd<;>first|rfl|(exact absurd rfl (p1 _)) |(exact absurd rfl (p2 _ _)) |(exact absurd rfl (p3 _))
       have hfk: ∀{q},Instr.findNow (yN k) (a.eval x) es.toList 0=some q->(Instr.findKey el (a.eval x) es.toList).run P w= .ok q w:=by
        intro q hq;unfold Instr.findKey;simp only[aR6,aSg hkd,aR0,hq,aSm]
       obtain⟨f1,f2⟩:=YQ (v:=u) hkey hx.1 0 hM;cases hmh:CW k u l a' with
       |false=>
        obtain⟨g1,_,g3⟩:=f1 hmh;refine rG.skip (w':={w with heap:=w.heap.setIfInBounds p.1 (.map (es.push ⟨a.eval x,a.eval y,cl⟩) (cl+1))}) ?_ (rJ.updMap hT hH hb hp hp0 hh hS ?_)
        .unfold execOp;rcases ho with ho|ho<;>rw[ho]<;>
          simp only[Instr.mapUpdate,hxv,aR6,aSg hmt,aR0,MapKept.run_getObj_map hh,hck,hfk g1,MapKept.run_setObj_map _ hh,aSm]
        .simp only[KN,Array.toList_push];exact g3 b _ _ hy.1
       |true=>
        obtain⟨j,e',g1,g2,g3,g4,g5⟩:=f2 hmh;rw[aSu] at g2;refine rG.skip (w':={w with heap:=w.heap.setIfInBounds p.1 (.map (es.modify j fun e=>{e with key:=a.eval x,val:=a.eval y}) cl)}) ?_ (rJ.updMap hT hH hb hp hp0 hh hS ?_)
        .have hj:es[j]? =some e':=by rw[<-aSJ];exact g1
         unfold execOp;rcases ho with ho|ho<;>rw[ho]<;>
          simp only[Instr.mapUpdate,hxv,aR6,aSg hmt,aR0,MapKept.run_getObj_map hh,hck,hfk g2,hj,Option.map_some,aTI,g4,Instr.keyThatStays,aJK hT hH hkey hx.1,aTf,MapKept.run_setObj_map _ hh,aSm]
        simp only[KN,Array.toList_modify];exact g5 b _ hy.1
      cases hr
     cases hr
    cases hr
   cases hr
  cases hr
 cases hr
end
theorem aAv {P:Program}{w:pT}{r:Nat}{s:ByteArray}{n:Nat}(hb:w.heap[r]? =some (.stringIter s n)):(getObj r).run P w= .ok (.stringIter s n) w:=by
 simp [getObj,Sem.run,hb]
theorem aJL {P:Program}{w:pT}{r:Nat}{s:ByteArray}{n:Nat}(o:Obj) (hb:w.heap[r]? =some (.stringIter s n)):(setObj r o).run P w= .ok () {w with heap:=w.heap.setIfInBounds r o}:=by
 simp [setObj,Sem.run,hb]
section
variable {P:Program}{o:Oper}{a:Act}{g:Gh}{w:pT}{H:rZ}{T:sG}(hT:wA P T) (hH:sA g w H)
include hT hH
theorem rJ.newIter {side:List Prop}{rds:pS}{base:Nat}{s:pE}(hf:g.J base=none) (hc:g.cur base=fun _=>none):
  rJ g w H ⟨side,(.val .ref (some (base,0)),none),[(base,.iter s 0)],rds⟩ (g.var base w.heap.size none) (w.alloc (.stringIter ⟨s.toArray⟩ 0)) (.pointer (some ⟨w.heap.size,0,none⟩)):=by
 have hJ:(g.var base w.heap.size none).J base=some ⟨w.heap.size,0,none⟩:=by simp [Gh.var]
 have le:Le g w (g.var base w.heap.size none) (w.alloc (.stringIter ⟨s.toArray⟩ 0)):=⟨fun _ _ h=>h,fun b o h=>aSh (a:=⟨b,o,none⟩) (aSr _ _ _ (hH.sl b o h)),fun i p h=>by
  show (if i=base then _ else _)=_;rw[aR4 (fun e1=>by rw[e1,hf] at h;cases h)];exact h,fun _ _ _ h=>h⟩
 have fr:Fr (sI g H (qH [(base,qB.iter s 0)])) w (w.alloc (.stringIter ⟨s.toArray⟩ 0)) g.S (g.var base w.heap.size none).S:=
  ⟨rfl,rfl,rfl,by simp,fun b hb _=>aSr _ _ _ hb,fun b o hb _=>⟨aSh (a:=⟨b,o,none⟩) (aSr _ _ _ hb),aSA (a:=⟨b,o,none⟩) (aSr _ _ _ hb)⟩,fun b o h=> .inl h,fun b s h=> .inl ((A3 (aSr _ _ _ (A2 h))).trans h)⟩
 have gho: ∀i,i∉qH [(base,qB.iter s 0)]->(g.var base w.heap.size none).J i=g.J i/\(g.var base w.heap.size none).cur i=g.cur i:=fun i hi=>⟨by
  show (if i=base then _ else _)=_;rw[aR4 (fun e1=>hi (by simp [qH,e1]))],rfl⟩
 have get: ∀i blk,i∈qH [(base,qB.iter s 0)]->qE (qT [(base,qB.iter s 0)] H) i=some blk->i=base/\blk= .iter s 0:=by
  intro i blk hi hg;simp only[qH,aSd] at hi;subst hi;simp only[qT,qE,aTf,aRV] at hg;exact⟨rfl,hg.symm⟩
 have perm: ∀i blk b o,i∈qH [(base,qB.iter s 0)]->qE (qT [(base,qB.iter s 0)] H) i=some blk->s6 (g.var base w.heap.size none) i blk b o->w.heap.size<=b\/sI g H (qH [(base,qB.iter s 0)]) b o:=by
  intro i blk b o hi hg ho;obtain⟨rfl,rfl⟩:=get i blk hi hg;obtain⟨p,hp,h1⟩:=ho;rw[hJ] at hp;obtain rfl:=aRY hp;exact .inl (aTg h1.symm)
 refine⟨le,⟨.inr ⟨rfl,_,hJ,rfl⟩,trivial⟩,hH.upd le fr perm gho (fun i blk hi hg=>?_) (fun i j bi bj b o hi hj hij hgi hgj _ _=>hij ((get i bi hi hgi).1.trans (get j bj hj hgj).1.symm)) (fun b o h=>aSv (hH.sl b o h) pK),fr,perm,gho,fun i u' y us h=>by
  simp only[qT,qE] at h;split at h
  .cases h
  exact .inl ⟨y,us,h⟩⟩
 obtain⟨rfl,rfl⟩:=get i blk hi hg;refine⟨⟨w.heap.size,0,none⟩,hJ,rfl,?_,fun o hs=>aTv _ (hH.sl _ _ hs)⟩;show (w.heap.push (.stringIter ⟨s.toArray⟩ 0))[w.heap.size]? =_;rw[aTD]
theorem rJ.updIter {side:List Prop}{rds:pS}{i:Nat}{s:pE}{n n':Nat}{d:qC}{val:pU}{p:Pl}(hi:qE H i=some (.iter s n)) (hp:g.J i=some p) (hp0:p.2=0) (hb:w.heap[p.1]? =some (.stringIter ⟨s.toArray⟩ n)) (hS: ∀o,¬g.S p.1 o) (hd:rN g {w with heap:=w.heap.setIfInBounds p.1 (.stringIter ⟨s.toArray⟩ n')} d val):
  rJ g w H ⟨side,d,[(i,.iter s n')],rds⟩ g {w with heap:=w.heap.setIfInBounds p.1 (.stringIter ⟨s.toArray⟩ n')} val:=by
 have hlt:p.1<w.heap.size:=(aSn.1 hb).1;have hoth: ∀b,b≠p.1->(w.heap.setIfInBounds p.1 (.stringIter ⟨s.toArray⟩ n'))[b]? =w.heap[b]? :=fun b hne=>by rw[aSU (Ne.symm hne)]
 have hown: ∀o,sI g H (qH [(i,qB.iter s n')]) p.1 o:=fun o=>⟨i,_,by simp [qH],hi,p,hp,rfl⟩;have le:Le g w g {w with heap:=w.heap.setIfInBounds p.1 (.stringIter ⟨s.toArray⟩ n')}:=⟨fun _ _ h=>h,fun b o h=>aSh (a:=⟨b,o,none⟩) (hoth b (fun e=>hS o (e▸h))),fun _ _ h=>h,fun _ _ _ h=>h⟩
 have fr:Fr (sI g H (qH [(i,qB.iter s n')])) w {w with heap:=w.heap.setIfInBounds p.1 (.stringIter ⟨s.toArray⟩ n')} g.S g.S:=
  ⟨rfl,rfl,rfl,by simp,fun b _ hn=>hoth b (fun e=>hn 0 (e▸hown 0)),fun b o _ hn=>⟨aSh (a:=⟨b,o,none⟩) (hoth b (fun e=>hn (e▸hown o))),aSA (a:=⟨b,o,none⟩) (hoth b (fun e=>hn (e▸hown o)))⟩,fun b o h=> .inl h,fun b s h=>(by
   by_cases e:b=p.1
   .exact .inr fun o=>e▸hown o
   exact .inl ((A3 (hoth b e)).trans h))⟩
 have get: ∀j blk,j∈qH [(i,qB.iter s n')]->qE (qT [(i,qB.iter s n')] H) j=some blk->j=i/\blk= .iter s n':=by
  intro j blk hj hg;simp only[qH,aSd] at hj;subst hj;simp only[qT,qE,aTf,aRV] at hg;exact⟨rfl,hg.symm⟩
 have perm: ∀j blk b o,j∈qH [(i,qB.iter s n')]->qE (qT [(i,qB.iter s n')] H) j=some blk->s6 g j blk b o->w.heap.size<=b\/sI g H (qH [(i,qB.iter s n')]) b o:=by
  intro j blk b o hj hg ho;obtain⟨rfl,rfl⟩:=get j blk hj hg;obtain⟨q,hq,rfl⟩:=ho;rw[hp] at hq;obtain rfl:=aRY hq;exact .inr (hown o)
 refine⟨le,hd,hH.upd le fr perm (fun _ _=>⟨rfl,rfl⟩) (fun j blk hj hg=>?_) (fun j j' bi bj b o hj hj' hij hgi hgj _ _=>hij ((get j bi hj hgi).1.trans (get j' bj hj' hgj).1.symm)) (fun b o h=>by simpa using hH.sl b o h),fr,perm,fun _ _=>⟨rfl,rfl⟩,fun j u' y us h=>by
  simp only[qT,qE] at h;split at h
  .cases h
  exact .inl ⟨y,us,h⟩⟩
 obtain⟨rfl,rfl⟩:=get j blk hj hg;exact⟨p,hp,hp0,by simp [aTr,hlt],hS⟩
theorem aJM {t:TypeId}{x:Operand}(ho:o.op= .range t x) {sx:qC}(hx:rN g w sx (a.eval x)) {base:Nat}{e:qP}(hr:XP base (rS T t) sx=some e) (hf:wT g base e):rG P o a g w H e:=by
 generalize hst:rS T t=ot at hr;unfold XP at hr;split at hr
 .rename_i el b ar ls s k;cases hr;have hfr:=hf base (by simp [qH]) (aSl _);have hv:=vM hx.1;have hu:=(sL hT hst).2;simp only[w9] at hu;refine rG.value (v:= .pointer (some ⟨w.heap.size,0,none⟩)) (w':=w.alloc (.stringIter ⟨s.toArray⟩ 0)) ?_ (rJ.newIter hT hH hfr.1 (funext hfr.2));unfold execOp;rw[ho];simp only[Instr.range,hv,aR6,aSg hu,run_newObj,aR0,aSm];rfl
 cases hr
theorem aJN {x:Operand}{b:Bool}(ho:o.op= .next x b) {sx:qC}(hx:rN g w sx (a.eval x)) {e:qP}(hr:SF H b sx=some e):rG P o a g w H e:=by
 unfold SF at hr;split at hr
 .rename_i i k;unfold XQ at hr;split at hr
  .rename_i s n hb;cases hr;obtain⟨p,hp,hp0,hh,hS⟩:=hH.blk i _ hb;obtain⟨q,hq,hv⟩:=wC hx.1;rw[hp] at hq;obtain rfl:=aRY hq;rw[hp0] at hv;by_cases hl:n<s.length
   .have hsz:n<(⟨s.toArray⟩:ByteArray).size:=by simpa[ByteArray.size] using hl
    refine rG.value (v:= .tuple #[.bool true,.int .i64 (n:Int),.int .i32 (w7 s n)]) (w':={w with heap:=w.heap.setIfInBounds p.1 (.stringIter ⟨s.toArray⟩ (z6 s n))}) ?_ (rJ.updIter hT hH hb hp hp0 hh hS ⟨⟨fun _=>rfl,fun h=>absurd hl (of_decide_eq_false h)⟩,trivial⟩)
    unfold execOp;rw[ho];have hrn:z6 s n=n+(Utf8.decode ⟨s.toArray⟩ n).2:=by unfold z6 XO;rw[aRZ hl]
    simp only[Instr.next,hv,aR6,aAv hh,aR0,hsz,aTf,aJL _ hh,aSm,hrn];rfl
   have hsz: ¬n<(⟨s.toArray⟩:ByteArray).size:=by simpa[ByteArray.size] using hl
   have hrn:z6 s n=n:=by unfold z6;rw[aR4 hl]
   have hw:({w with heap:=w.heap.setIfInBounds p.1 (.stringIter ⟨s.toArray⟩ (z6 s n))}:pT)=w:=by
    rw[hrn];have:w.heap.setIfInBounds p.1 (.stringIter ⟨s.toArray⟩ n)=w.heap:=by
     obtain⟨h1,h2⟩:=aSn.1 hh;apply Array.ext_getElem?;intro j;rw[aTr];split
     .rename_i hj;subst hj;first|rw[hh] |rw[aRZ h1,hh]
     rfl
    rw[this]
   refine rG.value (v:= .tuple #[.bool false]) (w':={w with heap:=w.heap.setIfInBounds p.1 (.stringIter ⟨s.toArray⟩ (z6 s n))}) ?_ (rJ.updIter hT hH hb hp hp0 hh hS ⟨⟨fun h=>absurd (aSD h) hl,fun _=>rfl⟩,trivial⟩)
   rw[hw];unfold execOp;rw[ho];simp only[Instr.next,hv,aR6,aAv hh,aR0,hsz,aTK,aSm]
  cases hr
 cases hr
end
def qS:Nat->List qB->rZ
 |_,[]=>[]
 |c,b::L=>(c,b)::qS (c+1) L
theorem T7: ∀(L:List qB) (c i:Nat),qE (qS c L) i=if c<=i then L[i-c]? else none
 |[],c,i=>by simp [qS,qE]
 |b::L,c,i=>by
  simp only[qS,qE];by_cases h:c=i
  .subst h;simp
  rw[aR4 h,T7 L (c+1) i];by_cases h2:c<=i
  .rw[aRZ h2,aRZ pI];obtain⟨d,hd⟩: ∃d,i-c=d+1:=⟨i-c-1,pI⟩;rw[hd,aSx];congr 1;omega
  rw[aR4 h2,aR4 pI]
theorem wD (L:List qB) (i:Nat):qE (qS 0 L) i=L[i]? :=by rw[T7];simp
def x6 (g:Gh) (H:rZ) (b o:Nat):Prop:= ∃i blk,qE H i=some blk/\s6 g i blk b o
def uB (g:Gh) (w:pT):List qC->pP->Prop
 |[],vs=>vs=[]
 |s::ss,vs=> ∃v vs',vs=v::vs'/\rN g w s v/\uB g w ss vs'
def O4 (g:Gh) (w:pT):List qC->pU->Prop
 |[s],v=>rN g w s v
 |l,v=> ∃vs:pP,v= .tuple vs.toArray/\uB g w l vs
structure CZ (g:Gh) (w:pT) (L:List qB) (r:qJ) (g':Gh) (w':pT) (v:pU):Prop where
 shut: ∀b o,g.S b o->g'.S b o/\w'.cell? ⟨b,o,none⟩=w.cell? ⟨b,o,none⟩
 heap:sA g' w' (qS 0 r.H)
 ret:O4 g' w' r.ret v
 fr:Fr (x6 g (qS 0 L)) w w' g.S g'.S
 perm: ∀i blk b o,r.H[i]? =some blk->s6 g' i blk b o->w.heap.size<=b\/x6 g (qS 0 L) b o
 J: ∀(i:Nat) t x ts,L[i]? =some (.cells t x ts)->g'.J i=g.J i
 ty: ∀(i:Nat) t x ts u y us,L[i]? =some (.cells t x ts)->r.H[i]? =some (.cells u y us)->u=t
 Jt: ∀i p,i<L.length->g.J i=some p->g'.J i=some p
 cur: ∀i n u,i<L.length->g.cur i n=some u->g'.cur i n=some u
def vN (P:Program) (f:FuncId) (C:List qC->List qB->Option qJ):Prop:=
 (∀args w,(callFunc f args).run P w= .ok (.enter f args) w)/\
 ∀(g:Gh) (w:pT) (args:List qC) (vals:pP) (L:List qB) (r:qJ),sA g w (qS 0 L)->uB g w args vals->C args L=some r->(∀p∈r.side,p)->
  Calls P f vals.toArray w (fun e w'=> ∃v g',e= .returned v/\CZ g w L r g' w' v)
def T8 (P:Program) (f:FuncId) (F:(t:Ty)->List t.den->Option (List t.den)):Prop:=
 ∀(g:Gh) (w:pT) (e:TypeId) (t:Ty) (l l':List t.den) (v:pU) (n:Nat) (xs:pP),CP w->w.ownsRow 0 e t.cells v n xs->tG (Rd g w t) t.cells l xs->l.length=n->n<4611686018427387904->F t l=some l'->
  Calls P f #[v] w (fun en w'=>en= .returned (.tuple #[])/\l'.length=n/\∃xs',w'.ownsRow 0 e t.cells v n xs'/\tG (Rd g w t) t.cells l' xs'/\w.grownBy w' v.ownBlock)
def BW (P:Program) (Γ:sS):Prop:= ∀f s,f<1000000000->Γ f=some s->vN P f s.C/\∀F,s.row=some F->T8 P f F
theorem aAw {g:Gh}{w:pT}{t:Ty}{x:t.den}{v:pU}{k:pR}(h:rN g w (.val t x,k) v):rN g w (.val t x,CQ t k) v:=by
 refine⟨h.1,?_⟩;cases t with
 |list u=>exact h.2
 |_=>trivial
theorem aJO {t:Ty}{k:pR}: ∀c,CQ t k=some c->∃u,t= .list u:=by
 cases t with
 |list u=>exact fun _ _=>⟨u,rfl⟩
 |_=>intro c h;cases h
theorem T9 {g g':Gh}{w:pT}(hS:g'.S=g.S) {t:Ty}(hp:t.pure=true) {x:t.den}{v:pU}{k k':pR}(hl: ∀c,k=some c->∃u,t= .list u) (h:rN g w (.val t x,k) v) (hk: ∀c,k=some c->∃c',k'=some c'/\∀n u,g.cur c n=some u->g'.cur c' n=some u) (hk0:k=none->k'=none):rN g' w (.val t x,k') v:=by
 have hv:sR g' w t x v:=h.1.imp (fun⟨a,cs,e,q⟩=>⟨a,cs,e,uY hS hp q⟩) (fun⟨a,q⟩=>⟨a,uY hS hp q⟩);refine⟨hv,?_⟩;cases k with
 |none=>rw[hk0 rfl];trivial
 |some c=>
  obtain⟨c',rfl,h2⟩:=hk c rfl;have h1:=h.2;cases t with
  |list u=>exact h2 _ _ h1
  |pair a b=>obtain⟨u,e⟩:=hl c rfl;cases e
  |_=>exact h1.elim
section
variable {P:Program}{o:Oper}{a:Act}{g:Gh}{w:pT}{H:rZ}{T:sG}{Γ:sS}(hT:wA P T) (hΓ:BW P Γ) (hH:sA g w H)
include hT hΓ hH
theorem YS {ti:Option TI}{s:qC}{v:pU}(h:rN g w s v):rN g w (KO ti s) v:=by
 unfold KO;split
 .have:v= .slice none 0 0:=h.1;subst this;exact⟨.inr ⟨rfl,none,0,rfl,aSl _,.inl rfl⟩,trivial⟩
 .have e:v= .nilFunc:=by
   have:=wB rfl h.1;simpa[Rd,FV] using this
  subst e;exact⟨.inr ⟨rfl,.inl ⟨rfl,rfl⟩⟩,trivial⟩
 exact h
theorem TA {ρ:Operand->qC}: ∀{xs:List Operand}{ts:List TypeId},xs.length=ts.length->(∀x∈xs,rN g w (ρ x) (a.eval x))->uB g w (zZ T ρ xs ts) (xs.map a.eval)
 |[],[],_,_=>rfl
 |x::xs,t::ts,h,hx=>⟨_,_,rfl,YS hT hΓ hH (hx x pK),TA (by simpa using h) (fun y hy=>hx y (by simp [hy]))⟩
theorem aJP {l m:List qC}{vs us:pP}(h:uB g w l vs) (k:uB g w m us):uB g w (l++m) (vs++us):=by
 induction l generalizing vs with
 |nil=>rw[show vs=[] from h];exact k
 |cons s l ih=>
  obtain⟨v,vs',rfl,h1,h2⟩:=h;exact⟨v,_,rfl,h1,ih h2⟩
theorem aAx: ∀{caps:pN}{vs:pP},x5 g caps vs->uB g w (XC caps) vs
 |[],_,h=>h
 |(i,o)::caps,_,⟨p,vs',h1,h2,h3⟩=>⟨_,_,h2,⟨.inr ⟨rfl,p,h1,rfl⟩,trivial⟩,aAx h3⟩
end
theorem TB {P:Program}{o:Oper}{a:Act}{f:FuncId}{fop:Operand}{args:Array Operand}{tys:Array TypeId}(ho:o.op= .call ⟨.value fop,args,tys⟩) {caps:pP}(hf:a.eval fop= .func (.func f) #[] caps.toArray)
  (hen: ∀args w,(callFunc f args).run P w= .ok (.enter f args) w) {w:pT}{K:Act->pT->Prop}{Q:Exit->Act->pT->Prop}
  (h:Calls P f ((args.toList.map a.eval)++caps).toArray w (fun e w'=> ∃v,e= .returned v/\K (a.put o.dst v) w')):o.wp P a w K Q:=by
 unfold Oper.wp;have:(execOp a.eval o).run P w= .ok (.enter f ((args.toList.map a.eval)++caps).toArray) w:=by
  unfold execOp;rw[ho];simp only[resolve,hf,Deferred.ofValue,aR6,aSm,aR0,invoke];rw[hen];congr 2;apply aSO.1;simp
 rw[this];unfold Oper.upon;refine h.mono fun e w' ⟨v,he,hk⟩=>?_;subst he;exact hk
def uC (g:Gh):Option rQ->Option Pl
 |some (.box i _ _ _ o)=>(g.J i).map fun p=>⟨p.1,p.2+o,p.3⟩
 |some (.tok k)=>g.J k
 |none=>none
def y8 (g:Gh):Option rQ->Nat->Option pU
 |some (.tok k),n=>g.cur k n
 |_,_=>none
def uD (g:Gh) (ws:List rQ):Gh:=⟨g.S,fun c=>uC g ws[c]?,fun c n=>y8 g ws[c]? n⟩
def TC (H:rZ) (ws:List rQ):rQ->qB->Prop
 | .box i u x toks o,.cells t y ts=>qE H i=some (.cells u x toks)/\qZ t u x o=some y/\∀q n,(q,n)∈ts->∃k,ws[n]? =some (.tok k)/\w6 toks (o+q)=some k/\q<t.cells
 | .tok k,.grow e c m=>qE H k=some (.grow e c m)
 | .tok k,.map s t l=>qE H k=some (.map s t l)/\s.pure=true/\t.pure=true
 | .tok k,.row e t l n=>qE H k=some (.row e t l n)/\t.pure=true
 |_,_=>False
structure E9 (H:rZ) (ws:List rQ) (L:List qB):Prop where
 len:ws.length=L.length
 ok: ∀(c:Nat) wh b,ws[c]? =some wh->L[c]? =some b->TC H ws wh b
 nodup:(sC ws).Nodup
def YT (ws:List rQ) (t:Ty) (x y:t.den):Prop:=(t.pure=true/\y=x)\/AF ws t x=some y
def TD (H:rZ) (ws:List rQ):rQ->qB->Prop
 | .box i u x toks o,.cells t y ts=>qE H i=some (.cells u x toks)/\(∃y0,qZ t u x o=some y0/\YT ws t y0 y)/\∀q n,(q,n)∈ts->∃k,ws[n]? =some (.tok k)/\w6 toks (o+q)=some k/\q<t.cells
 | .tok k,.grow e c m=>qE H k=some (.grow e c m)
 | .tok k,.map s t l=>qE H k=some (.map s t l)/\s.pure=true/\t.pure=true
 | .tok k,.row e t l n=>qE H k=some (.row e t l n)/\t.pure=true
 |_,_=>False
def LC {i o:Nat}: ∀{ws:List rQ}{c0:Nat}{c q:Nat},B9 i o ws c0=some (c,q)->∃d u x toks oc,c=c0+d/\ws[d]? =some (.box i u x toks oc)/\o=oc+q
 |[],_,_,_,h=>by simp [B9] at h
 | .box j u x toks oc::r,c0,c,q,h=>by
  simp only[B9] at h;split at h
  .rename_i hc;simp only[aRV,aSp] at h;obtain⟨rfl,rfl⟩:=h;obtain⟨rfl,h2⟩:=hc;exact⟨0,u,x,toks,oc,rfl,rfl,pI⟩
  .obtain⟨d,u',x',toks',oc',h1,h2,h3⟩:=LC h;exact⟨d+1,u',x',toks',oc',pI,by simpa using h2,h3⟩
 | .tok k::r,c0,c,q,h=>by
  simp only[B9] at h;obtain⟨d,u',x',toks',oc',h1,h2,h3⟩:=LC h;exact⟨d+1,u',x',toks',oc',pI,by simpa using h2,h3⟩
def G0 {i:Nat}: ∀{ws:List rQ}{c0 c:Nat},uW i ws c0=some c->∃d,c=c0+d/\ws[d]? =some (.tok i)
 |[],_,_,h=>by simp [uW] at h
 | .tok j::r,c0,c,h=>by
  simp only[uW] at h;split at h
  .rename_i hc;simp only[aRV] at h;subst h;subst hc;exact⟨0,rfl,rfl⟩
  .obtain⟨d,h1,h2⟩:=G0 h;exact⟨d+1,pI,by simpa using h2⟩
 | .box _ _ _ _ _::r,c0,c,h=>by
  simp only[uW] at h;obtain⟨d,h1,h2⟩:=G0 h;exact⟨d+1,pI,by simpa using h2⟩
def YU {α β:Type}{a:Option α}{b:Option β}{p:α×β}(h:CS a b=some p):a=some p.1/\b=some p.2:=by
 cases a<;>cases b<;>simp [CS] at h
 subst h;exact⟨rfl,rfl⟩
def aJQ {x y:Option (Nat×pN)}(h:N0 x=some y):y=x/\∀f l,x=some (f,l)->l=[]:=by
 unfold N0 at h;split at h
 .cases h;exact⟨rfl,fun _ _ h=>by cases h⟩
 .cases h;exact⟨rfl,fun _ _ h=>by cases h;rfl⟩
 cases h
def aJR {g g':Gh}{x:Option (Nat×pN)}{cs:pP}(hx: ∀f l,x=some (f,l)->l=[]) (h:FV g x cs):FV g' x cs:=by
 cases x with
 |none=>exact h
 |some q=>
  obtain⟨f,l⟩:=q;obtain rfl:=hx f l rfl;exact h
def TE {g g':Gh}{w:pT}(hS:g'.S=g.S) (f:(t:Ty)->t.den->Option t.den)
  (hp: ∀a b x,f (.pair a b) x=CS (if a.pure=true then some x.1 else f a x.1) (if b.pure=true then some x.2 else f b x.2))
  (hl: ∀t x,f (.list t) x=if t.pure=true then some x else none) (hb: ∀x,f .bool x=some x) (hi: ∀k x,f (.int k) x=some x) (hs: ∀x,f .str x=some x) (hu: ∀x,f .unit x=some x) (hfn: ∀x,f .fn x=some x) (hrl: ∀e t x y cs,f (.rl e t) x=some y->A0 g x cs->A0 g' y cs) (hmr: ∀x y cs,f .mref x=some y->NT g x cs->NT g' y cs) (hap: ∀x y cs,f .ap x=some y->CX g w x cs->CX g' w y cs)
  (hr: ∀x y cs,f .ref x=some y->NS g x cs->NS g' y cs) (hm: ∀x y cs,f .mp x=some y->II g x cs->II g' y cs) (hc: ∀x,f .clo x=N0 x):
  ∀{t:Ty}{x y:t.den}{cs:pP},Rd g w t x cs->f t x=some y->Rd g' w t y cs
 | .bool,_,_,_,r,h=>by rw[hb] at h;cases h;exact r
 | .int _,_,_,_,r,h=>by rw[hi] at h;cases h;exact r
 | .str,_,_,_,r,h=>by rw[hs] at h;cases h;exact r
 | .unit,_,_,_,r,h=>by rw[hu] at h;cases h;exact r
 | .rl e t,x,y,_,r,h=>hrl e t x y _ h r
 | .fn,_,_,_,r,h=>by rw[hfn] at h;cases h;exact r
 | .mref,x,y,_,r,h=>hmr x y _ h r
 | .ap,x,y,_,r,h=>hap x y _ h r
 | .list t,x,y,_,r,h=>by
  rw[hl] at h;split at h
  .rename_i hpu;cases h;exact uY hS (t:= .list t) (by simpa[Ty.pure] using hpu) r
  .cases h
 | .ref,x,y,_,r,h=>hr x y _ h r
 | .clo,x,y,_,r,h=>by
  rw[hc] at h;obtain⟨rfl,h2⟩:=aJQ h;exact aJR h2 r
 | .mp,x,y,_,r,h=>hm x y _ h r
 | .pair a b,x,y,_,⟨c1,c2,e,r1,r2⟩,h=>by
  rw[hp] at h;obtain⟨h1,h2⟩:=YU h;refine⟨c1,c2,e,?_,?_⟩
  .split at h1
   .rename_i hpu;exact(aRY h1)▸uY hS hpu r1
   exact TE hS f hp hl hb hi hs hu hfn hrl hmr hap hr hm hc r1 h1
  split at h2
  .rename_i hpu;exact(aRY h2)▸uY hS hpu r2
  exact TE hS f hp hl hb hi hs hu hfn hrl hmr hap hr hm hc r2 h2
def YV (f:(t:Ty)->t.den->Option t.den)
  (hp: ∀a b x,f (.pair a b) x=CS (if a.pure=true then some x.1 else f a x.1) (if b.pure=true then some x.2 else f b x.2))
  (hl: ∀t x,f (.list t) x=if t.pure=true then some x else none) {u:Ty}: ∀{t:Ty}{x y:t.den}{o:Nat}{l:List u.den},f t x=some y->qZ (.list u) t x o=some l->qZ (.list u) t y o=some l:=by
 intro t
 induction t with
 |pair a b iha ihb=>
  intro x y o l h hg;rw[hp] at h;obtain⟨h1,h2⟩:=YU h;have key: ∀z:(Ty.pair a b).den,∀q,qZ (.list u) (.pair a b) z q=if q<a.cells then qZ (.list u) a z.1 q else qZ (.list u) b z.2 (q-a.cells):=by
   intro z q;cases q with
   |zero=>
    conv=>lhs;unfold qZ
    rw[aS8 (by intro e;cases e),Nat.zero_sub]
   |succ q=>simp [qZ]
  rw[key] at hg|-;split
  .rename_i ho;rw[aRZ ho] at hg;split at h1
   .rw[<-aRY h1];exact hg
   exact iha h1 hg
  .rename_i ho;rw[aR4 ho] at hg;split at h2
   .rw[<-aRY h2];exact hg
   .exact ihb h2 hg
 |list v=>
  intro x y o l h hg;rw[hl] at h;split at h
  .cases h;exact hg
  .cases h
 |_=>
  intro x y o l h hg;cases o with
  |zero=>
   unfold qZ at hg;split at hg
   .rename_i e;cases e
   .cases hg
  |succ o=>simp [qZ] at hg
def aAy {c n3 n4:Nat}{a:pQ}{b d:pR}{y:Nat×Nat×(Nat×Nat)×(Nat×Nat)}(h:R6 c n3 n4 a b d=some y): ∃i k3 k4,a=some (i,0)/\b=some k3/\d=some k4/\y=(c,i,(k3,n3),(k4,n4)):=by
 unfold R6 at h;split at h
 .exact⟨_,_,_,rfl,rfl,rfl,(aRY h).symm⟩
 cases h
def YW {g g':Gh}{w w':pT}{c i k3 k4 n3 n4 i' k3' k4':Nat}{cs:pP}(hS: ∀b o,g.S b o->g'.S b o/\w'.cell? ⟨b,o,none⟩=w.cell? ⟨b,o,none⟩) (hJ: ∀p,g.J i=some p->∃q,g'.J i'=some q/\q.1=p.1/\q.2=p.2) (h3: ∀v,g.cur k3 n3=some v->g'.cur k3' n3=some v) (h4: ∀v,g.cur k4 n4=some v->g'.cur k4' n4=some v)
  (h:CX g w (c,i,(k3,n3),(k4,n4)) cs):CX g' w' (c,i',(k3',n3),(k4',n4)) cs:=by
 rcases h with h|⟨h0,b,α,e,s1,s2,a1,a2,a3,a4⟩
 .exact .inl h
 refine .inr ⟨h0,b,α,e,(hS _ _ s1).1,(hS _ _ s1).2.trans s2,fun q=>?_,fun q=>?_,fun q=>?_,fun q=>?_⟩
 .obtain⟨p,p1,p2⟩:=a1 q;obtain⟨r,r1,r2,r3⟩:=hJ p p1;exact⟨r,r1,by rw[p2,r2,r3]⟩
 .obtain⟨p,p1,p2⟩:=a2 q;obtain⟨r,r1,r2,r3⟩:=hJ p p1;exact⟨r,r1,by rw[p2,r2,r3]⟩
 .obtain⟨bb,cap,p1,p2⟩:=a3 q;exact⟨bb,cap,h3 _ p1,p2⟩
 obtain⟨bb,cap,p1,p2⟩:=a4 q;exact⟨bb,cap,h4 _ p1,p2⟩
def aJS {g:Gh}{w:pT}{ws:List rQ}{t:Ty}{x y:t.den}{cs:pP}(r:Rd g w t x cs) (h:AF ws t x=some y):Rd (uD g ws) w t y cs:=by
 refine TE (g:=g) (g':=uD g ws) rfl (AF ws) (fun a b x=>rfl) (fun t x=>rfl) (fun _=>rfl) (fun _ _=>rfl) (fun _=>rfl) (fun _=>rfl) (fun _=>rfl) (fun _ _ x y cs h r=>?_) (fun x y cs h r=>?_) (fun x y cs h r=>?_) (fun x y cs h r=>?_) (fun x y cs h r=>?_) (fun _=>rfl) r h
 rotate_left 2
 .obtain⟨c,i,⟨k3,n3⟩,⟨k4,n4⟩⟩:=x;simp only[AF,a85] at h;obtain⟨i',k3',k4',e1,e2,e3,rfl⟩:=aAy h;obtain⟨d,u,x,toks,oc,rfl,h2,h0⟩:=LC e1;obtain⟨d3,rfl,h3⟩:=G0 e2;obtain⟨d4,rfl,h4⟩:=G0 e3;obtain rfl:oc=0:=by omega
  refine YW (g:=g) (g':=uD g ws) (fun _ _ h=>⟨h,rfl⟩) (fun p hp=>⟨⟨p.1,p.2+0,p.3⟩,?_,rfl,rfl⟩) (fun v hv=>?_) (fun v hv=>?_) r
  .show uC g ws[0+d]? =_;rw[aSu,h2];simp [uC,hp]
  .show y8 g ws[0+d3]? n3=_;rw[aSu,h3];exact hv
  show y8 g ws[0+d4]? n4=_;rw[aSu,h4];exact hv
 rotate_left 2
 .cases x with
  |none=>cases h;exact r
  |some q=>
   obtain⟨k,n⟩:=q;simp only[AF,a84] at h;cases hc:uW k ws 0 with
   |none=>rw[hc] at h;cases h
   |some c=>
    rw[hc] at h;cases h;obtain⟨d,rfl,h2⟩:=G0 hc;obtain⟨v,hv,hs⟩:=r;refine⟨v,?_,hs⟩;show y8 g ws[0+d]? n=_;rw[aSu,h2];exact hv
 .cases x with
  |none=>cases h;exact r
  |some q=>
   obtain⟨i,o⟩:=q;simp only[AF,R5] at h;cases hc:B9 i o ws 0 with
   |none=>rw[hc] at h;cases h
   |some q=>
    obtain⟨c,q⟩:=q;rw[hc] at h;cases h;obtain⟨d,u,x,toks,oc,rfl,h2,rfl⟩:=LC hc;obtain⟨p,hp,hv⟩:=r;refine⟨⟨p.1,p.2+oc,p.3⟩,?_,by have:=hv.1;rwa [<-aSz] at this,hv.2.imp id fun hv=>by rw[hv];simp [aSz]⟩;show uC g ws[0+d]? =_;rw[aSu,h2];simp [uC,hp]
 .cases x with
  |none=>cases h;exact r
  |some q=>
   obtain⟨i,o⟩:=q;simp only[AF,R5] at h;cases hc:B9 i o ws 0 with
   |none=>rw[hc] at h;cases h
   |some q=>
    obtain⟨c,q⟩:=q;rw[hc] at h;cases h;obtain⟨d,u,x,toks,oc,rfl,h2,rfl⟩:=LC hc;obtain⟨p,hp,hv⟩:=r;refine⟨⟨p.1,p.2+oc,p.3⟩,?_,by rw[hv];simp [aSz]⟩;show uC g ws[0+d]? =_;rw[aSu,h2];simp [uC,hp]
 cases x with
 |none=>cases h;exact r
 |some i=>
  simp only[AF,a83] at h;cases hc:uW i ws 0 with
  |none=>rw[hc] at h;cases h
  |some c=>
   rw[hc] at h;cases h;obtain⟨d,rfl,h2⟩:=G0 hc;obtain⟨p,hp,hv⟩:=r;refine⟨p,?_,hv⟩;show uC g ws[0+d]? =_;rw[aSu,h2];exact hp
def aJT {g:Gh}{w:pT}{ws:List rQ}{t:Ty}{x y:t.den}{cs:pP}(h:YT ws t x y) (r:Rd g w t x cs):Rd (uD g ws) w t y cs:=by
 rcases h with⟨hp,rfl⟩ |h
 .exact uY (g:=g) (g':=uD g ws) rfl hp r
 exact aJS r h
def aJU {ws:List rQ}{t u:Ty}{x y:t.den}{o:Nat}{l:List u.den}(h:YT ws t x y) (hg:qZ (.list u) t x o=some l):qZ (.list u) t y o=some l:=by
 rcases h with⟨_,rfl⟩ |h
 .exact hg
 exact YV (AF ws) (fun _ _ _=>rfl) (fun _ _=>rfl) h hg
structure O5 (H:rZ) (ws:List rQ) (L:List qB):Prop where
 len:ws.length=L.length
 ok: ∀(c:Nat) wh b,ws[c]? =some wh->L[c]? =some b->TD H ws wh b
 nodup:(sC ws).Nodup
def YX: ∀(ws:List rQ) (c:Nat),(sC ws)[c]? =(ws[c]?).map rQ.id
 |[],c=>by simp [sC]
 |w::ws,0=>rfl
 |w::ws,c+1=>by simpa[sC] using YX ws c
def G1: ∀ws ws':List rQ,sC (ws++ws')=sC ws++sC ws'
 |[],_=>rfl
 |w::ws,ws'=>by simp [sC,G1 ws ws']
def EA: ∀{i:Nat}{l:pS},yG i l=true↔i∈l
 |i,[]=>by simp [yG]
 |i,j::r=>by
  simp only[yG,aSa];by_cases h:i=j
  .simp [h]
  rw[aR4 h,EA];simp [h]
def TF {ws:List rQ}(h:(sC ws).Nodup) {c c':Nat}{x y:rQ}(hx:ws[c]? =some x) (hy:ws[c']? =some y) (he:x.id=y.id):c=c':=by
 have h1:(sC ws)[c]? =some x.id:=by rw[YX,hx];rfl
 have h2:(sC ws)[c']? =some x.id:=by rw[YX,hy,he];rfl
 obtain⟨l1,e1⟩:=aR7.1 h1;obtain⟨l2,e2⟩:=aR7.1 h2;have hp:=List.pairwise_iff_getElem.1 h;rcases Nat.lt_trichotomy c c' with h3|h3|h3
 .exact absurd (e1.trans e2.symm) (hp c c' l1 l2 h3)
 .exact h3
 exact absurd (e2.trans e1.symm) (hp c' c l2 l1 h3)
def aAz: ∀{toks:pN}{q k:Nat},w6 toks q=some k->(q,k)∈toks
 |[],_,_,h=>by simp [w6] at h
 |(q',k')::r,q,k,h=>by
  simp only[w6] at h;split at h
  .rename_i e;subst e;simp only[aRV] at h;subst h;simp
  exact aSb _ (aAz h)
def aJV {v t:Ty}: ∀{u:Ty}{x:u.den}{o q:Nat}{y:t.den}{l:(Ty.list v).den},qZ t u x o=some y->qZ (.list v) u x (o+q)=some l->q<t.cells->qZ (.list v) t y q=some l:=by
 intro u
 induction u with
 |pair a b iha ihb=>
  intro x o q y l h g hq;by_cases hu:o=0/\t= .pair a b
  .obtain⟨rfl,rfl⟩:=hu;unfold qZ at h;rw[aTE rfl] at h;simp only[tJ,aRV] at h;subst h;simpa using g
  .have keyh:(if o<a.cells then qZ t a x.1 o else qZ t b x.2 (o-a.cells))=some y:=by
    cases o with
    |zero=>
     unfold qZ at h;rw[aS8 (fun e=>hu ⟨rfl,e.symm⟩)] at h;simpa using h
    |succ o=>simpa[qZ] using h
   have keyg: ∀z,qZ (.list v) (.pair a b) x z=(if z<a.cells then qZ (.list v) a x.1 z else qZ (.list v) b x.2 (z-a.cells)):=by
    intro z;cases z with
    |zero=>
     conv=>lhs;unfold qZ
     rw[aS8 (by intro e;cases e),Nat.zero_sub]
    |succ z=>simp [qZ]
   rw[keyg] at g;by_cases ho:o<a.cells
   .rw[aRZ ho] at keyh;have hfit:o+t.cells<=a.cells:=by
     have: ∀{u:Ty}{x:u.den}{o:Nat}{y:t.den},qZ t u x o=some y->o+t.cells<=u.cells:=by
      intro u
      induction u with
      |pair a b iha ihb=>
       intro x o y h;have key: ∀o,(if o<a.cells then qZ t a x.1 o else qZ t b x.2 (o-a.cells))=some y->o+t.cells<=a.cells+b.cells:=by
        intro o h;by_cases ho:o<a.cells
        .rw[aRZ ho] at h;have:=iha h;omega
        rw[aR4 ho] at h;have:=ihb h;omega
       cases o with
       |zero=>
        unfold qZ at h;split at h
        .rename_i e;subst e;simp
        .exact key 0 (by simpa using h)
       |succ o=>exact key (o+1) (by simpa[qZ] using h)
      |_=>
       intro x o y h;cases o with
       |zero=>
        unfold qZ at h;split at h
        .rename_i e;subst e;simp
        .simp at h
       |succ o=>simp [qZ] at h
     exact this keyh
    rw[aRZ pI] at g;exact iha keyh g hq
   .rw[aR4 ho] at keyh;rw[aR4 pI,show o+q-a.cells=o-a.cells+q from by omega] at g;exact ihb keyh g hq
 |_=>
  intro x o q y l h g hq;cases o with
  |zero=>
   unfold qZ at h;split at h
   .rename_i e;subst e;simp only[tJ,aRV] at h
    try subst h
    simpa using g
   .simp at h
  |succ o=>simp [qZ] at h
def aJW {g:Gh}{w:pT}{H:rZ}{ws:List rQ}{L:List qB}(hH:sA g w H) (hm:O5 H ws L):sA (uD g ws) w (qS 0 L):=by
 have wsL: ∀c b,qE (qS 0 L) c=some b->∃wh,ws[c]? =some wh/\TD H ws wh b:=by
  intro c b h;rw[wD] at h;have hlt:c<ws.length:=hm.len▸(aR7.1 h).1;exact⟨ws[c],aR3 hlt,hm.ok c _ b (aR3 hlt) h⟩
 have own: ∀c b wh,ws[c]? =some wh->TD H ws wh b->∀bb oo,s6 (uD g ws) c b bb oo->∃blk,qE H wh.id=some blk/\s6 g wh.id blk bb oo:=by
  intro c b wh hwh hw bb oo ho;cases wh with
  |box i u x toks off=>
   cases b with
   |cells t y ts=>
    obtain⟨h1,⟨y0,h2,h3⟩,h4⟩:=hw;obtain⟨p,hp,e1,e2,e3⟩:=ho;have hp':uC g ws[c]? =some p:=hp;rw[hwh] at hp';obtain⟨p0,hp0,rfl⟩:=aR8.1 hp';obtain⟨p1,cs,hp1,hR,_⟩:=hH.blk i _ h1;obtain⟨c1,c2,c3,hcs,hl,hR2⟩:=A1 hR h2;have l1:=sJ hR;have l2:=sJ hR2;rw[hcs] at l1;simp only[aRX] at l1;exact⟨_,h1,p0,hp0,e1,by simp at e2;omega,by simp at e3;omega⟩
   |_=>exact hw.elim
  |tok k=>
   cases b with
   |grow e cc m=>
    obtain⟨v,hv,hb⟩:=ho;have hv':y8 g ws[c]? m=some v:=hv;rw[hwh] at hv';exact⟨_,hw,v,hv',hb⟩
   |map s t l=>
    obtain⟨p,hp,hb⟩:=ho;have hp':uC g ws[c]? =some p:=hp;rw[hwh] at hp';exact⟨_,hw.1,p,hp',hb⟩
   |row e t l m=>
    obtain⟨v,hv,hb⟩:=ho;have hv':y8 g ws[c]? m=some v:=hv;rw[hwh] at hv';exact⟨_,hw.1,v,hv',hb⟩
   |_=>exact hw.elim
 refine⟨fun c b h=>?_,fun c c' b b' bb oo hne h1 h2 o1 o2=>?_,hH.sl,hH.tab.1,fun c b bb oo h ho=>?_⟩
 rotate_right
 .obtain⟨wh,hwh,hw⟩:=wsL c b h;obtain⟨k1,g1,p1⟩:=own c b wh hwh hw bb oo ho;exact hH.tab.2 _ _ bb oo g1 p1
 .obtain⟨wh,hwh,hw⟩:=wsL c b h;cases wh with
  |box i u x toks off=>
   cases b with
   |cells t y ts=>
    obtain⟨h1,⟨y0,h2,h3⟩,h4⟩:=hw;obtain⟨p,cs,hp,hR,hra,hth,hns,htk⟩:=hH.blk i _ h1;obtain⟨c1,c2,c3,rfl,rfl,hR2⟩:=A1 hR h2;have l1:=sJ hR;have l2:=sJ hR2;simp only[aRX] at l1;refine⟨⟨p.1,p.2+c1.length,p.3⟩,c2,?_,aJT h3 hR2,fun j v hv=>?_,⟨fun j hj=>?_,fun h0 s hs=>hth.2 pI s hs⟩,fun j hj hs=>?_,fun q n hm'=>?_⟩
    .show uC g ws[c]? =_;rw[hwh];simp [uC,hp]
    .have:=hra (c1.length+j) v (by
      have hj':=(aR7.1 hv).1;rw[aR9,aR5 pI,aSB,aSc hj'];exact hv)
     rw[aSz];exact this
    .have:=hth.1 (c1.length+j) pI;rw[aSz];exact this
    .exact hns (c1.length+j) pI (by rw[<-aSz];exact hs)
    .obtain⟨k,k1,k2,k3⟩:=h4 q n hm';have hmem:(c1.length+q,k)∈toks:=aAz k2;obtain⟨u',l,v,g1,g2,g3⟩:=htk _ _ hmem;refine⟨u',l,v,aJU h3 (aJV h2 g1 k3),?_,?_⟩
     .rw[aR9,aR5 pI,aSB,aSc pI] at g2;exact g2
     .show y8 g ws[n]? _=_;rw[k1];exact g3
   |_=>exact hw.elim
  |tok k=>
   cases b with
   |grow e cc m=>
    have e1:(uD g ws).cur c=g.cur k:=by
     funext n;show y8 g ws[c]? n=_;rw[hwh];rfl
    obtain⟨v,xs,hv,hr,hn,hs⟩:=hH.blk k _ hw;exact⟨v,xs,by rw[e1];exact hv,hr,fun m hm'=>by rw[e1];exact hn m hm',hs⟩
   |map s t l=>
    obtain⟨p,es,cl,hp,hp0,hh,hM,hS⟩:=hH.blk k _ hw.1;refine⟨p,es,cl,?_,hp0,hh,NV (g:=g) (g':=uD g ws) rfl hw.2.1 hw.2.2 hM,hS⟩;show uC g ws[c]? =_;rw[hwh];exact hp
   |row e t l m=>
    have e1:(uD g ws).cur c=g.cur k:=by
     funext n;show y8 g ws[c]? n=_;rw[hwh];rfl
    obtain⟨hl,v,xs,hv,hr,hF,hn,hs⟩:=hH.blk k _ hw.1;exact⟨hl,v,xs,by rw[e1];exact hv,hr,AL (fun _ _ h=>uY (g:=g) (g':=uD g ws) rfl hw.2 h) hF,fun m hm'=>by rw[e1];exact hn m hm',hs⟩
   |_=>exact hw.elim
 obtain⟨wh,hwh,hw⟩:=wsL c b h1;obtain⟨wh',hwh',hw'⟩:=wsL c' b' h2;obtain⟨k1,g1,p1⟩:=own c b wh hwh hw bb oo o1;obtain⟨k2,g2,p2⟩:=own c' b' wh' hwh' hw' bb oo o2;exact hH.dis wh.id wh'.id k1 k2 bb oo (fun e=>hne (TF hm.nodup hwh hwh' e)) g1 g2 p1 p2
def aAA {H:rZ}{ws more:List rQ}: ∀{wh:rQ}{b:qB},TC H ws wh b->TC H (ws++more) wh b
 | .box _ _ _ _ _,.cells _ _ _,⟨h1,h2,h4⟩=>⟨h1,h2,fun q n h=>let ⟨k,k1,k2⟩:=h4 q n h;⟨k,by rw[aSc (aR7.1 k1).1];exact k1,k2⟩⟩
 | .box _ _ _ _ _,.grow _ _ _,h=>h.elim
 | .box _ _ _ _ _,.dead,h=>h.elim
 | .box _ _ _ _ _,.row _ _ _ _,h=>h.elim
 | .box _ _ _ _ _,.map _ _ _,h=>h.elim
 | .box _ _ _ _ _,.iter _ _,h=>h.elim
 | .tok _,.iter _ _,h=>h.elim
 | .tok _,.row _ _ _ _,h=>h
 | .tok _,.grow _ _ _,h=>h
 | .tok _,.map _ _ _,h=>h
 | .tok _,.cells _ _ _,h=>h.elim
 | .tok _,.dead,h=>h.elim
def IT (g:Gh) (w:pT) (ws more:List rQ):Le (uD g ws) w (uD g (ws++more)) w:=by
 refine⟨fun _ _ h=>h,fun _ _ _=>rfl,fun c p h=>?_,fun c n v h=>?_⟩
 .have h':uC g ws[c]? =some p:=h;show uC g (ws++more)[c]? =some p;cases hc:ws[c]? with
  |none=>rw[hc] at h';cases h'
  |some wh=>rw[aSc (aR7.1 hc).1];exact h'
 have h':y8 g ws[c]? n=some v:=h;show y8 g (ws++more)[c]? n=some v;cases hc:ws[c]? with
 |none=>rw[hc] at h';cases h'
 |some wh=>rw[aSc (aR7.1 hc).1];exact h'
def IU {g g':Gh}{w w':pT}(h:Le g w g' w'): ∀{ss:List qC}{vs:pP},uB g w ss vs->uB g' w' ss vs
 |[],_,r=>r
 |_::_,_,⟨v,vs',e,r1,r2⟩=>⟨v,vs',e,BB h r1,IU h r2⟩
def BX {g:Gh}{w:pT}: ∀{ss:List qC}{vs:pP}{s:qC}{v:pU},uB g w ss vs->rN g w s v->uB g w (ss++[s]) (vs++[v])
 |[],_,_,_,h,k=>by rw[show _=[] from h];exact⟨_,_,rfl,k,rfl⟩
 |_::_,_,_,_,⟨v,vs',e,r1,r2⟩,k=>⟨v,vs'++_,by rw[e];rfl,r1,BX r2 k⟩
def E9.tok {H:rZ}{ws:List rQ}{L:List qB}(h:E9 H ws L) {k:Nat}{b0:qB}(hk:TC H (ws++[.tok k]) (.tok k) b0) (hn:k∉sC ws):E9 H (ws++[.tok k]) (L++[b0]):=by
 refine⟨by simp [h.len],fun i wh b h1 h2=>?_,?_⟩
 .by_cases hi:i<ws.length
  .rw[aSc hi] at h1;rw[aSc (h.len▸hi)] at h2;exact aAA (h.ok i wh b h1 h2)
  rw[aR5 pI] at h1;rw[aR5 (by rw[<-h.len];omega),<-h.len] at h2;obtain⟨d,hd⟩: ∃d,i-ws.length=d:=⟨_,rfl⟩;rw[hd] at h1 h2;cases d with
  |zero=>
   simp only[aSt,aRV] at h1 h2;subst h1;subst h2;exact hk
  |succ d=>simp at h1
 rw[G1];exact List.nodup_append.2 ⟨h.nodup,by simp [sC],fun a ha b hb=>by
  simp only[sC,rQ.id,aSd] at hb;subst hb;intro e;exact hn (e▸ha)⟩
def aAB: ∀{os:pS}{n q m:Nat},(q,m)∈HU os n->∃j:Nat,os[j]? =some q/\m=n+j
 |[],_,_,_,h=>by simp [HU] at h
 |q'::os,n,q,m,h=>by
  simp only[HU,aSa,aSp] at h;rcases h with⟨rfl,rfl⟩ |h
  .exact⟨0,rfl,rfl⟩
  obtain⟨j,h1,h2⟩:=aAB h;exact⟨j+1,by simpa using h1,pI⟩
def aAC {n:Nat}: ∀{os:pS}{j q:Nat},KQ n os=true->os[j]? =some q->q<n
 |[],_,_,_,h=>by simp at h
 |q'::os,0,q,h,h2=>by
  simp only[KQ,aSj,aSi] at h;simp only[aSt,aRV] at h2;exact h2▸h.1
 |q'::os,j+1,q,h,h2=>by
  simp only[KQ,aSj] at h;exact aAC h.2 (by simpa using h2)
def TG {H:rZ}{toks:pN}{o:Nat}: ∀{os:pS}{a a':sN},xC H toks o os (some a)=some a'->
  ∃(ks:pS) (bs:List qB),ks.length=os.length/\bs.length=os.length/\a'.args=a.args/\a'.H.reverse=a.H.reverse++bs/\a'.ws.reverse=a.ws.reverse++ks.map rQ.tok/\a'.n=a.n+os.length/\
   (∀(j:Nat) q k,os[j]? =some q->ks[j]? =some k->w6 toks (o+q)=some k)/\(∀(j:Nat) k b,ks[j]? =some k->bs[j]? =some b->qE H k=some b/\∃e c m,b= .grow e c m)/\(∀k∈ks,k∉sC a.ws.reverse)/\ks.Nodup
 |[],a,a',h=>by
  simp only[xC,aRV] at h;subst h;exact⟨[],[],rfl,rfl,rfl,by simp,by simp,rfl,by simp,by simp,by simp,by simp⟩
 |q::os,a,a',h=>by
  simp only[xC] at h;have none_no: ∀os,xC H toks o os none=none:=by
   intro os
   induction os with
   |nil=>rfl
   |cons q os ih=>
    have:xW H (w6 toks (o+q)) none=none:=by
     cases w6 toks (o+q) with
     |none=>rfl
     |some k=>simp only[xW];cases qE H k with
      |none=>rfl
      |some b=>cases b<;>rfl
    simp only[xC,this,ih]
  cases hk:w6 toks (o+q) with
  |none=>rw[hk] at h;simp only[xW,none_no] at h;cases h
  |some k=>
   rw[hk] at h;simp only[xW] at h;cases hb:qE H k with
   |none=>rw[hb] at h;simp only[AB,none_no] at h;cases h
   |some b=>
    rw[hb] at h;cases b with
    |grow e c m=>
     simp only[AB] at h;by_cases hm:yG k (sC a.ws)=true
     .rw[aRZ hm,none_no] at h;cases h
     .rw[aR4 hm] at h;obtain⟨ks,bs,h1,h2,h3,h4,h5,h6,h7,h8,h9,h10⟩:=TG h;simp only[aSw] at h4 h5 h9;have hrev: ∀ws:List rQ,∀i,i∈sC ws.reverse↔i∈sC ws:=by
       intro ws i
       induction ws with
       |nil=>simp
       |cons x r ih=>rw[aSw,G1];simp [sC,ih,or_comm]
      refine⟨k::ks,.grow e c m::bs,by simp [h1],by simp [h2],h3,by rw[h4];simp,by rw[h5];simp,by rw[h6];simp;omega,fun j q' k'=>?_,fun j k' b'=>?_,fun k' hk'=>?_,?_⟩
      .cases j with
       |zero=>intro e1 e2;simp only[aSt,aRV] at e1 e2;subst e1;subst e2;exact hk
       |succ j=>intro e1 e2;exact h7 j q' k' (by simpa using e1) (by simpa using e2)
      .cases j with
       |zero=>intro e1 e2;simp only[aSt,aRV] at e1 e2;subst e1;subst e2;exact⟨hb,_,_,_,rfl⟩
       |succ j=>intro e1 e2;exact h8 j k' b' (by simpa using e1) (by simpa using e2)
      .rcases aSa.1 hk' with rfl|hk'
       .rw[hrev];exact fun hmem=>hm (EA.2 hmem)
       intro hmem;exact h9 k' hk' (by rw[G1];exact List.mem_append_left _ hmem)
      .refine List.nodup_cons.2 ⟨fun hmem=>h9 k hmem (by rw[G1];simp [sC,rQ.id]),h10⟩
    |cells t y ts=>simp only[AB,none_no] at h;cases h
    |row=>simp only[AB,none_no] at h;cases h
    |map=>simp only[AB,none_no] at h;cases h
    |iter=>simp only[AB,none_no] at h;cases h
    |dead=>simp only[AB,none_no] at h;cases h
def aAD: ∀ks:pS,sC (ks.map rQ.tok)=ks
 |[]=>rfl
 |k::ks=>by simp [sC,rQ.id,aAD ks]
def E9.box {H:rZ}{ws:List rQ}{L:List qB}(h:E9 H ws L) {t u:Ty}{x:u.den}{y:t.den}{toks:pN}{i o:Nat}{os ks:pS}{bs:List qB}(hi:qE H i=some (.cells u x toks)) (hy:qZ t u x o=some y) (hlt:KQ t.cells os=true) (hn:i∉sC ws)
  (h1:ks.length=os.length) (h2:bs.length=os.length) (h7: ∀(j:Nat) q k,os[j]? =some q->ks[j]? =some k->w6 toks (o+q)=some k) (h8: ∀(j:Nat) k b,ks[j]? =some k->bs[j]? =some b->qE H k=some b/\∃e c m,b= .grow e c m) (h9: ∀k∈ks,k∉sC (ws++[.box i u x toks o])) (h10:ks.Nodup):
  E9 H ((ws++[.box i u x toks o])++ks.map rQ.tok) ((L++[.cells t y (HU os (ws.length+1))])++bs):=by
 have hlen1:(ws++[rQ.box i u x toks o]).length=ws.length+1:=by simp
 have hlen2:(L++[qB.cells t y (HU os (ws.length+1))]).length=ws.length+1:=by simp [h.len]
 refine⟨by simp [h.len,h1,h2],fun c wh b e1 e2=>?_,?_⟩
 .by_cases hc:c<ws.length
  .rw[aSc pI,aSc hc] at e1;rw[aSc pI,aSc (h.len▸hc)] at e2;rw[aR9];exact aAA (h.ok c wh b e1 e2)
  by_cases hc2:c=ws.length
  .subst hc2;rw[aSc pI,aR5 (aSl _),aTt] at e1;rw[aSc pI,aR5 (by rw[h.len];exact aSl _),h.len,aTt] at e2;simp only[aSt,aRV] at e1 e2;subst e1;subst e2;refine⟨hi,hy,fun q n hm=>?_⟩;rw[<-h.len] at hm;obtain⟨j,hj,rfl⟩:=aAB hm;have hjl:j<ks.length:=by rw[h1];exact(aR7.1 hj).1
   refine⟨ks[j],?_,h7 j q _ hj (aR3 hjl),aAC hlt hj⟩;rw[aR5 pI,hlen1,show ws.length+1+j- (ws.length+1)=j from by omega];simp [hjl]
  rw[aR5 pI,hlen1] at e1;rw[aR5 pI,hlen2] at e2;rw[List.getElem?_map] at e1;obtain⟨k,hk,rfl⟩:=aR8.1 e1;obtain⟨hg,e,cc,m,rfl⟩:=h8 _ k b hk e2;exact hg
 rw[G1,aAD];refine List.nodup_append.2 ⟨?_,h10,fun a ha b hb e=>h9 b hb (e▸ha)⟩;rw[G1];exact List.nodup_append.2 ⟨h.nodup,by simp [sC],fun a ha b hb=>by
  simp only[sC,rQ.id,aSd] at hb;subst hb;intro e;exact hn (e▸ha)⟩
def O6 (ws:List rQ) (i:Nat):i∈sC ws.reverse↔i∈sC ws:=by
 induction ws with
 |nil=>simp
 |cons x r ih=>rw[aSw,G1];simp [sC,ih,or_comm]
structure A4 (g:Gh) (w:pT) (H:rZ) (vals:pP) (a:sN):Prop where
 n:a.n=a.ws.reverse.length
 m:E9 H a.ws.reverse a.H.reverse
 args:uB (uD g a.ws.reverse) w a.args.reverse vals
def aJX {g:Gh}{w:pT}{ws:List rQ}{t:Ty}(hp:t.pure=true) {x:t.den}{v:pU}{k:pR}(h:rN g w (.val t x,k) v):rN (uD g ws) w (.val t x,none) v:=
 ⟨h.1.imp (fun⟨a,cs,e,q⟩=>⟨a,cs,e,uY (g:=g) (g':=uD g ws) rfl hp q⟩) (fun⟨a,q⟩=>⟨a,uY (g:=g) (g':=uD g ws) rfl hp q⟩),trivial⟩
def aJY {H:rZ}{k:pR}{a b:sN}{l m:List qC}(h:xW H k (some ⟨l,a.H,a.ws,a.n⟩)=some b):b.args=l/\xW H k (some ⟨m,a.H,a.ws,a.n⟩)=some ⟨m,b.H,b.ws,b.n⟩:=by
 cases k with
 |none=>cases h
 |some k=>
  simp only[xW] at h|-;cases hb:qE H k with
  |none=>rw[hb] at h;simp [AB] at h
  |some bl=>
   rw[hb] at h;cases bl with
   |grow e c n=>
    simp only[AB] at h|-;split at h
    .cases h
    .rename_i hc;rw[aR4 hc];cases h;exact⟨rfl,rfl⟩
   |_=>simp [AB] at h
def aAE {H:rZ}{toks:pN}{o:Nat}{m:List qC}: ∀{os:pS}{a b:sN},xC H toks o os (some a)=some b->b.args=a.args/\xC H toks o os (some ⟨m,a.H,a.ws,a.n⟩)=some ⟨m,b.H,b.ws,b.n⟩
 |[],a,b,h=>by simp only[xC,aRV] at h;subst h;exact⟨rfl,rfl⟩
 |q::os,a,b,h=>by
  simp only[xC] at h|-;have none_no: ∀os,xC H toks o os none=none:=by
   intro os
   induction os with
   |nil=>rfl
   |cons q os ih=>
    have:xW H (w6 toks (o+q)) none=none:=by
     cases w6 toks (o+q) with
     |none=>rfl
     |some k=>simp only[xW];cases qE H k with
      |none=>rfl
      |some b=>cases b<;>rfl
    simp only[xC,this,ih]
  cases hm:xW H (w6 toks (o+q)) (some a) with
  |none=>rw[hm,none_no] at h;cases h
  |some c=>
   rw[hm] at h;obtain⟨h1,h2⟩:=aJY (a:=a) (l:=a.args) (m:=m) hm;obtain⟨h3,h4⟩:=aAE (m:=m) h;rw[h2];exact⟨h3.trans h1,h4⟩
def aJZ {H:rZ}{t:Ty}{os:pS}{i o:Nat}{a b:sN}{m:List qC}(h:uV H t os i o a (qE H i)=some b):uV H t os i o ⟨m,a.H,a.ws,a.n⟩ (qE H i)=some ⟨(.val .ref (some (a.n,0)),none)::m,b.H,b.ws,b.n⟩:=by
 cases hb:qE H i with
 |none=>rw[hb] at h;simp [uV] at h
 |some bl=>
  rw[hb] at h;cases bl with
  |cells u x toks=>
   simp only[uV] at h|-;cases hy:qZ t u x o with
   |none=>rw[hy] at h;simp [CR] at h
   |some y=>
    rw[hy] at h;simp only[CR] at h|-;split at h
    .rename_i hc;rw[aRZ hc];exact(aAE (m:=(.val .ref (some (a.n,0)),none)::m) h).2
    .cases h
  |_=>simp [uV] at h
def aAF {g:Gh}{i o:Nat}{p:Pl}{v:pU}: ∀{l:pN}{vs:pP},x5 g l vs->g.J i=some p->v= .pointer (some ⟨p.1,p.2+o,none⟩)->x5 g (l++[(i,o)]) (vs++[v])
 |[],vs,h,hp,hv=>by rw[show vs=[] from h];exact⟨p,[],hp,by rw[hv];rfl,rfl⟩
 |(_,_)::l,vs,⟨q,vs',h1,h2,h3⟩,hp,hv=>⟨q,vs'++[v],h1,by rw[h2];rfl,aAF h3 hp hv⟩
def YY {α:Type}: ∀(l acc:List α),xH l acc=l.reverse++acc
 |[],_=>rfl
 |x::l,acc=>by simp [xH,YY l]
def aAG {g:Gh}{w:pT}{H:rZ}(hH:sA g w H) {t:Ty}{os:pS}{i o:Nat}{vals:pP}{a a':sN}(ha:A4 g w H vals a) {p:Pl}(hp:g.J i=some p) (h:uV H t os i o a (qE H i)=some a'):
  A4 g w H vals ⟨a.args,a'.H,a'.ws,a'.n⟩/\∃more,a'.ws.reverse=a.ws.reverse++more/\a'.args=(.val .ref (some (a.n,0)),none)::a.args/\(uD g a'.ws.reverse).J a.n=some ⟨p.1,p.2+o,p.3⟩:=by
 cases hb:qE H i with
 |none=>rw[hb] at h;simp [uV] at h
 |some b=>
  rw[hb] at h;cases b with
  |cells u x toks=>
   simp only[uV] at h;cases hy:qZ t u x o with
   |none=>rw[hy] at h;simp [CR] at h
   |some y=>
    rw[hy] at h;simp only[CR] at h;split at h
    .rename_i hc;simp only[aSj,aSE] at hc;obtain⟨ks,bs,h1,h2,h3,h4,h5,h6,h7,h8,h9,h10⟩:=TG h;simp only[aSw] at h3 h4 h5 h6 h9;have hnm:i∉sC a.ws.reverse:=fun hmem=>by
      have:=EA.2 ((O6 _ _).1 hmem);rw[hc.2] at this;cases this
     have e5:a'.ws.reverse=a.ws.reverse++([rQ.box i u x toks o]++ks.map rQ.tok):=by rw[h5];simp only[aR9]
     refine⟨⟨by rw[h6];simp only;rw[h5,ha.n];simp [h1];omega,?_,?_⟩,_,e5,h3,?_⟩
     .simp only;rw[h4,h5,ha.n];exact ha.m.box hb hy hc.1 hnm h1 h2 h7 h8 h9 h10
     .simp only;rw[e5];exact IU (IT g w _ _) ha.args
     show uC g a'.ws.reverse[a.n]? =_;rw[e5,ha.n,aR5 (aSl _),aTt];show (g.J i).map _=_;rw[hp];rfl
    .cases h
  |grow=>simp [uV] at h
  |row=>simp [uV] at h
  |map=>simp [uV] at h
  |iter=>simp [uV] at h
  |dead=>simp [uV] at h
def aAH {H:rZ}{f:FuncId}{args0:List qC}: ∀{ks:List (Ty×pS)}{cs ids:pN}{a a':sN},wL H f args0 ks cs ids (some a)=some a'->∃s more,a'.args=s::args0/\a'.ws.reverse=a.ws.reverse++more
 |[],[],ids,a,a',h=>by
  simp only[wL,aRV] at h;subst h;exact⟨_,[],rfl,by simp⟩
 |[],_::_,_,_,_,h=>by simp [wL] at h
 |_::_,[],_,_,_,h=>by simp [wL] at h
 |(t,os)::ks,(i,o)::cs,ids,a,a',h=>by
  simp only[wL] at h;cases hb:uV H t os i o a (qE H i) with
  |none=>rw[hb] at h;cases ks<;>cases cs<;>simp [wL] at h
  |some b=>
   rw[hb] at h;obtain⟨s,more,h1,h2⟩:=aAH h;obtain⟨more0,h3⟩: ∃more0,b.ws.reverse=a.ws.reverse++more0:=by
    unfold uV at hb;split at hb
    .unfold CR at hb;split at hb
     .split at hb
      .obtain⟨ks,bs,_,_,_,_,h5,_⟩:=TG hb;exact⟨_,by rw[h5];simp only[aSw];exact aR9 ..⟩
      cases hb
     cases hb
    cases hb
   exact⟨s,more0++more,h1,by rw[h2,h3,aR9]⟩
def aAI {g:Gh}{w:pT}{H:rZ}(hH:sA g w H) {f:FuncId}{args0:List qC}{vals:pP}: ∀{ks:List (Ty×pS)}{cs:pN}{ids:pN}{vs us:pP}{a a':sN},A4 g w H vals ⟨args0,a.H,a.ws,a.n⟩->
  x5 g cs vs->x5 (uD g a.ws.reverse) ids.reverse us->wL H f args0 ks cs ids (some a)=some a'->
  A4 g w H vals ⟨args0,a'.H,a'.ws,a'.n⟩/\∃ids',a'.args=(.val .clo (some (f,ids')),none)::args0/\(∃more,a'.ws.reverse=a.ws.reverse++more)/\x5 (uD g a'.ws.reverse) ids' (us++vs)
 |[],[],ids,vs,us,a,a',ha,hv,hu,h=>by
  simp only[wL,YY,List.append_nil,aRV] at h;subst h;rw[show vs=[] from hv,List.append_nil];exact⟨ha,_,rfl,⟨[],by simp⟩,hu⟩
 |[],_::_,_,_,_,_,_,_,_,_,h=>by simp [wL] at h
 |_::_,[],_,_,_,_,_,_,_,_,h=>by simp [wL] at h
 |(t,os)::ks,(i,o)::cs,ids,vs,us,a,a',ha,⟨p,vs',hp,hv1,hv2⟩,hu,h=>by
  simp only[wL] at h;cases hb:uV H t os i o a (qE H i) with
  |none=>rw[hb] at h;cases ks<;>cases cs<;>simp [wL] at h
  |some b=>
   rw[hb] at h;have hb':uV H t os i o ⟨args0,a.H,a.ws,a.n⟩ (qE H i)=some ⟨(.val .ref (some (a.n,0)),none)::args0,b.H,b.ws,b.n⟩:=aJZ hb;obtain⟨q1,more,q2,q3,q4⟩:=aAG hH ha hp hb';simp only at q1 q2 q3 q4;have hmono:=IT g w a.ws.reverse more;rw[<-q2] at hmono;have hu2:x5 (uD g b.ws.reverse) ((a.n,0)::ids).reverse (us++[.pointer (some ⟨p.1,p.2+o,none⟩)]):=by
    simp only[aSw];exact aAF (XV hmono.J hu) q4 pK
   obtain⟨z1,ids',z2,⟨more',z3⟩,z4⟩:=aAI hH (a:=b) q1 hv2 hu2 h;refine⟨z1,ids',z2,⟨more++more',by rw[z3,q2,aR9]⟩,?_⟩;rw[hv1];rw[aR9] at z4;exact z4
def aAJ {g:Gh}{w:pT}{H:rZ}(hH:sA g w H) {p:PK}{s:qC}{v:pU}{vals:pP}{a a':sN}(ha:A4 g w H vals a) (hs:rN g w s v) (h:wM H a p s=some a'):A4 g w H (vals++[v]) a':=by
 unfold wM at h;split at h
 .rename_i f k;simp only[R3,aRV] at h;subst h;refine⟨ha.n,ha.m,?_⟩;simp only[aSw];refine BX ha.args ⟨?_,trivial⟩;rcases hs.1 with⟨h1,_⟩ |⟨h1,vs,h2,h3⟩
  .cases h1
  rw[show vs=[] from h2] at h3;exact .inr ⟨rfl,[],rfl,h3⟩
 .rename_i t x k _;simp only[R2] at h;split at h
  .rename_i hp;simp only[aRV] at h;subst h;refine⟨ha.n,ha.m,?_⟩;simp only[aSw];exact BX ha.args (aJX hp hs)
  cases h
 .simp only[R4,aRV] at h;subst h;refine⟨ha.n,ha.m,?_⟩;simp only[aSw];exact BX ha.args ⟨hs.1,trivial⟩
 .rename_i t x k;cases hb:qE H k with
  |none=>rw[hb] at h;simp [AC] at h
  |some b=>
   rw[hb] at h;cases b with
   |grow e c m=>
    simp only[AC] at h;split at h
    .rename_i hc;simp only[aSj,aSE] at hc;simp only[aRV] at h;subst h;have hnm:k∉sC a.ws.reverse:=fun hmem=>by
      have:=EA.2 ((O6 _ _).1 hmem);rw[hc.2] at this;cases this
     refine⟨by simp [ha.n],by simpa using ha.m.tok (b0:= .grow e c m) hb hnm,?_⟩;simp only[aSw];refine BX (IU (IT g w _ _) ha.args) (T9 (g:=g) (g':=uD g (a.ws.reverse++[.tok k])) (k':=some a.n) rfl hc.1 (fun _ _=>⟨_,rfl⟩) hs (fun c' e1=>?_) (fun e1=>by cases e1));cases e1;refine⟨_,rfl,fun n u hu=>?_⟩;show y8 g (a.ws.reverse++[rQ.tok k])[a.n]? n=some u;rw[ha.n,aR5 (aSl _),aTt];exact hu
    .cases h
   |cells=>simp [AC] at h
   |row=>simp [AC] at h
   |map=>simp [AC] at h
   |iter=>simp [AC] at h
   |dead=>simp [AC] at h
 .rename_i t os i o k;obtain⟨p,hp,hv⟩:=wC hs.1;obtain⟨h1,more,h2,h3,h4⟩:=aAG hH ha hp h;refine⟨h1.n,h1.m,?_⟩;rw[h3];simp only[aSw];exact BX h1.args ⟨.inr ⟨rfl,_,h4,by rw[hv];rfl⟩,trivial⟩
 .rename_i i k;cases hb:qE H i with
  |none=>rw[hb] at h;simp [AD] at h
  |some b=>
   rw[hb] at h;cases b with
   |map s t l=>
    simp only[AD] at h;split at h
    .rename_i hc;simp only[aSj,aSE] at hc;simp only[aRV] at h;subst h;have hnm:i∉sC a.ws.reverse:=fun hmem=>by
      have:=EA.2 ((O6 _ _).1 hmem);rw[hc.2] at this;cases this
     refine⟨by simp [ha.n],by simpa using ha.m.tok (b0:= .map s t l) ⟨hb,hc.1.1,hc.1.2⟩ hnm,?_⟩;simp only[aSw];obtain⟨p,hp,hv⟩: ∃p,g.J i=some p/\v= .map (some p.1):=by
      obtain⟨p,h1,e⟩:=wB rfl hs.1;simp only[aSy,and_true] at e;exact⟨p,h1,e⟩
     refine BX (IU (IT g w _ _) ha.args) ⟨.inr ⟨rfl,p,?_,by rw[hv]⟩,trivial⟩;show uC g (a.ws.reverse++[rQ.tok i])[a.n]? =_;rw[ha.n,aR5 (aSl _),aTt];exact hp
    .cases h
   |cells=>simp [AD] at h
   |row=>simp [AD] at h
   |grow=>simp [AD] at h
   |iter=>simp [AD] at h
   |dead=>simp [AD] at h
 .rename_i k n k';cases hb:qE H k with
  |none=>rw[hb] at h;simp [wK] at h
  |some b=>
   rw[hb] at h;cases b with
   |row e t l m=>
    simp only[wK] at h;split at h
    .rename_i hc;simp only[aSj,aSE] at hc;simp only[aRV] at h;subst h;have hnm:k∉sC a.ws.reverse:=fun hmem=>by
      have:=EA.2 ((O6 _ _).1 hmem);rw[hc.2] at this;cases this
     refine⟨by simp [ha.n],by simpa using ha.m.tok (b0:= .row e t l m) ⟨hb,hc.1⟩ hnm,?_⟩;simp only[aSw];obtain⟨h1,h2⟩:=hs.1;refine BX (IU (IT g w _ _) ha.args) ⟨⟨?_,h2⟩,trivial⟩;show y8 g (a.ws.reverse++[rQ.tok k])[a.n]? n=_;rw[ha.n,aR5 (aSl _),aTt];exact h1
    .cases h
   |cells=>simp [wK] at h
   |grow e c m=>
    simp only[wK] at h;split at h
    .rename_i hc;simp only[aSE] at hc;simp only[aRV] at h;subst h;have hnm:k∉sC a.ws.reverse:=fun hmem=>by
      have:=EA.2 ((O6 _ _).1 hmem);rw[hc] at this;cases this
     refine⟨by simp [ha.n],by simpa using ha.m.tok (b0:= .grow e c m) hb hnm,?_⟩;simp only[aSw];obtain⟨h1,h2⟩:=hs.1;refine BX (IU (IT g w _ _) ha.args) ⟨⟨?_,h2⟩,trivial⟩;show y8 g (a.ws.reverse++[rQ.tok k])[a.n]? n=_;rw[ha.n,aR5 (aSl _),aTt];exact h1
    .cases h
   |map=>simp [wK] at h
   |iter=>simp [wK] at h
   |dead=>simp [wK] at h
 .rename_i ks f cs k';obtain⟨vs,hv1,hv2⟩: ∃vs,x5 g cs vs/\v= .func (.func f) #[] vs.toArray:=by
   rcases hs.1 with⟨h1,_⟩ |⟨_,vs,h2,h3⟩
   .cases h1
   simp only[aSy,and_true] at h3;exact⟨vs,h2,h3⟩
  obtain⟨z1,ids',z2,_,z4⟩:=aAI hH (ids:=[]) (a:=a) (us:=[]) ha hv1 rfl h;refine⟨z1.n,z1.m,?_⟩;rw[z2];simp only[aSw];exact BX z1.args ⟨.inr ⟨rfl,vs,by simpa using z4,by rw[hv2]⟩,trivial⟩
 .rename_i i o k;obtain⟨p,hp,hv⟩:=wC hs.1;rw[YY,List.append_nil] at h;cases hc:B9 i o a.ws.reverse 0 with
  |none=>rw[hc] at h;cases h
  |some q=>
   obtain⟨c,q⟩:=q;rw[hc] at h;simp only[MZ,aRV] at h;subst h;obtain⟨d,u,x,toks,oc,rfl,h2,rfl⟩:=LC hc;refine⟨ha.n,ha.m,?_⟩;simp only[aSw];refine BX ha.args ⟨.inr ⟨rfl,⟨p.1,p.2+oc,p.3⟩,?_,by rw[hv];simp [aSz]⟩,trivial⟩;show uC g a.ws.reverse[0+d]? =_;rw[aSu,h2];simp [uC,hp]
 cases h
def aAK {g:Gh}{w:pT}{H:rZ}(hH:sA g w H): ∀{ps:List PK}{ss:List qC}{vs vals:pP}{a a':sN},A4 g w H vals a->uB g w ss vs->wN H ps ss (some a)=some a'->A4 g w H (vals++vs) a'
 |[],[],vs,vals,a,a',ha,hs,h=>by
  simp only[wN,aRV] at h;subst h;rw[show vs=[] from hs,List.append_nil];exact ha
 |p::ps,s::ss,vs,vals,a,a',ha,⟨v,vs',e,h1,h2⟩,h=>by
  simp only[wN] at h;cases ho:wM H a p s with
  |none=>rw[ho] at h;cases ps<;>cases ss<;>simp [wN] at h
  |some a1=>
   rw[ho] at h;have:=aAK hH (aAJ hH ha h1 ho) h2 h;rw[e];simpa using this
 |[],_::_,_,_,_,_,_,_,h=>by simp [wN] at h
 |_::_,[],_,_,_,_,_,_,h=>by simp [wN] at h
def A4.nil (g:Gh) (w:pT) (H:rZ):A4 g w H [] ⟨[],[],[],0⟩:=
 ⟨rfl,⟨rfl,fun c wh b h _=>by simp at h,by simp [sC]⟩,rfl⟩
def aAL: ∀(l:List qB) (n:Nat),FJ l n=l[n]?
 |[],_=>by simp [FJ]
 |_::_,0=>rfl
 |_::r,n+1=>by simpa[FJ] using aAL r n
def aJ0 {g:Gh}{w:pT}: ∀{t:Ty}{x:t.den}{cs:pP}{o:Nat}{y:pQ},Rd g w t x cs->AE t x o=some y->∃cs',A0 g y cs':=by
 intro t
 induction t with
 |pair a b iha ihb=>
  intro x cs o y r h;obtain⟨c1,c2,_,r1,r2⟩:=r;simp only[AE] at h;split at h
  .exact iha r1 h
  .exact ihb r2 h
 |rl e u=>
  intro x cs o y r h;cases o with
  |zero=>simp only[AE,aRV] at h;subst h;exact⟨cs,r⟩
  |succ o=>simp [AE] at h
 |_=>intro x cs o y r h;cases o<;>simp [AE] at h
def aJ1 {g:Gh}{w:pT}{H:rZ}(hH:sA g w H) {vals:pP}{a:sN}(ha:A4 g w H vals a) (c q:Nat) (pk:PK): ∃v,rN g w (HV q pk (FJ a.H c)) v:=by
 rw[aAL];have any: ∃v,rN g w (.any,none) v:=⟨undef,trivial,trivial⟩;cases hb:a.H[c]? with
 |none=>cases pk<;>exact any
 |some b=>
  cases b with
  |cells t y ts=>
   have hlt:c<a.H.length:=(aR7.1 hb).1;have hb':a.H.reverse[a.H.length-1-c]? =some (.cells t y ts):=by
    rw[List.getElem?_reverse pI,show a.H.length-1- (a.H.length-1-c)=c by omega];exact hb
   obtain⟨wh,hwh⟩: ∃wh,a.ws.reverse[a.H.length-1-c]? =some wh:=by
    have hl:=ha.m.len;simp only[List.length_reverse] at hl;exact⟨_,aR3 (by rw[List.length_reverse];omega)⟩
   have hw:=ha.m.ok _ wh _ hwh hb';cases wh with
   |tok k=>exact hw.elim
   |box i u x toks off=>
    obtain⟨h1,h2,_⟩:=hw;obtain⟨p,cs,hp,hR,_⟩:=hH.blk i _ h1;obtain⟨c1,c2,c3,hcs,hl,hR2⟩:=A1 hR h2;cases pk with
    |p t' os=>
     simp only[HV];cases hg:qZ .ref t y q with
     |none=>exact any
     |some z=>
      cases z with
      |none=>exact any
      |some z=>
       obtain⟨d1,d2,d3,_,_,hR3⟩:=A1 hR2 hg;obtain⟨p',hp',e⟩:=hR3;exact⟨_,.inr ⟨rfl,p',hp',rfl⟩,trivial⟩
    |m=>
     simp only[HV];cases hg:qZ .mp t y q with
     |none=>exact any
     |some z=>
      cases z with
      |none=>exact any
      |some z=>
       obtain⟨d1,d2,d3,_,_,hR3⟩:=A1 hR2 hg;obtain⟨p',hp',e⟩:=hR3;exact⟨_,.inr ⟨rfl,p',hp',rfl⟩,trivial⟩
    |v=>exact any
    |own=>exact any
    |f ks=>exact any
    |q=>exact any
    |r=>
     simp only[HV];cases hg:AE t y q with
     |none=>exact any
     |some z=>
      cases z with
      |none=>exact any
      |some z=>
       obtain⟨cs',hR3⟩:=aJ0 hR2 hg;obtain⟨v,hv,_,hsh⟩:=hR3;exact⟨v,⟨hv,hsh⟩,trivial⟩
  |_=>cases pk<;>exact any
def aAM {g:Gh}{w:pT}{H:rZ}(hH:sA g w H) {vals:pP}: ∀{gs:List (Nat×Nat×PK)}{a a':sN},A4 g w H vals a->zT H gs (some a)=some a'->A4 g w H vals a'
 |[],a,a',ha,h=>by
  simp only[zT,aRV] at h;subst h;exact ha
 |(c,q,pk)::gs,a,a',ha,h=>by
  simp only[zT] at h;obtain⟨v,hv⟩:=aJ1 hH ha (a.n-1-c) q pk;cases hp:wM H a pk (HV q pk (FJ a.H (a.n-1-c))) with
  |none=>
   rw[hp] at h;simp only[KR] at h;cases gs<;>simp [zT] at h
  |some b=>
   rw[hp] at h;simp only[KR] at h;have hb:=aAJ hH ha hv hp;refine aAM hH (a:=⟨a.args,b.H,b.ws,b.n⟩) ⟨hb.n,hb.m,?_⟩ h;obtain⟨s,more,e1,e2⟩: ∃s more,b.args=s::a.args/\b.ws.reverse=a.ws.reverse++more:=by
    have hp':=hp;unfold wM at hp';split at hp'
    .simp only[R3,aRV] at hp';subst hp';exact⟨_,[],rfl,by simp⟩
    .simp only[R2] at hp';split at hp'
     .simp only[aRV] at hp';subst hp';exact⟨_,[],rfl,by simp⟩
     cases hp'
    .simp only[R4,aRV] at hp';subst hp';exact⟨_,[],rfl,by simp⟩
    .unfold AC at hp';split at hp'
     .split at hp'
      .simp only[aRV] at hp';subst hp';exact⟨_,[_],rfl,aSw ..⟩
      cases hp'
     cases hp'
    .unfold uV at hp';split at hp'
     .unfold CR at hp';split at hp'
      .split at hp'
       .obtain⟨ks,bs,_,_,h3,_,h5,_⟩:=TG hp';exact⟨_,_,h3,by rw[h5];simp only[aSw];exact aR9 ..⟩
       cases hp'
      cases hp'
     cases hp'
    .unfold AD at hp';split at hp'
     .split at hp'
      .simp only[aRV] at hp';subst hp';exact⟨_,[_],rfl,aSw ..⟩
      cases hp'
     cases hp'
    .unfold wK at hp';split at hp'
     .split at hp'
      .simp only[aRV] at hp';subst hp';exact⟨_,[_],rfl,aSw ..⟩
      cases hp'
     .split at hp'
      .simp only[aRV] at hp';subst hp';exact⟨_,[_],rfl,aSw ..⟩
      cases hp'
     cases hp'
    .exact aAH hp'
    .unfold MZ at hp';split at hp'
     .simp only[aRV] at hp';subst hp';exact⟨_,[],rfl,by simp⟩
     cases hp'
    cases hp'
   rw[e2];exact IU (IT g w _ _) ha.args
def aJ2 {b:Option qB}{l:Option (List qB)}{r:List qB}(h:WA b l=some r): ∃b' l',b=some b'/\l=some l'/\r=b'::l':=by
 cases b<;>cases l<;>simp [WA] at h
 exact⟨_,_,rfl,rfl,h.symm⟩
def aAN {W:List rQ}: ∀{L0 L:List qB},FK W L0=some L->L.length=L0.length/\∀(c:Nat) (b:qB),L[c]? =some b->∃b0,L0[c]? =some b0/\HW W b0=some b
 |[],L,h=>by
  simp only[FK,aRV] at h;subst h;exact⟨rfl,fun c b h=>by simp at h⟩
 |b0::L0,L,h=>by
  simp only[FK] at h;obtain⟨b',l',h1,h2,rfl⟩:=aJ2 h;obtain⟨k1,k2⟩:=aAN h2;refine⟨by simp [k1],fun c b hc=>?_⟩;cases c with
  |zero=>simp only[aSt,aRV] at hc;subst hc;exact⟨b0,rfl,h1⟩
  |succ c=>obtain⟨b1,q1,q2⟩:=k2 c b (by simpa using hc);exact⟨b1,by simpa using q1,q2⟩
def E9.ren {H:rZ}{ws:List rQ}{L0 L:List qB}(h:E9 H ws L0) (hc:FK ws L0=some L):O5 H ws L:=by
 obtain⟨k1,k2⟩:=aAN hc;refine⟨h.len.trans k1.symm,fun c wh b hw hb=>?_,h.nodup⟩;obtain⟨b0,q1,q2⟩:=k2 c b hb;have hok:=h.ok c wh b0 hw q1;cases b0 with
 |cells t y ts=>
  cases wh with
  |tok k=>exact hok.elim
  |box i u x toks o=>
   obtain⟨h1,h2,h3⟩:=hok;simp only[HW] at q2;split at q2
   .rename_i hp;obtain rfl:=aRY q2;exact⟨h1,⟨y,h2,.inl ⟨hp,rfl⟩⟩,h3⟩
   .cases hy:AF ws t y with
    |none=>rw[hy] at q2;cases q2
    |some z=>
     rw[hy] at q2;obtain rfl:=aRY q2;exact⟨h1,⟨y,h2,.inr hy⟩,h3⟩
 |_=>
  simp only[HW,aRV] at q2;subst q2;cases wh<;>exact hok
theorem y9: ∀(W:List rQ) (c:Nat),xI W c=W[c]?
  |[],c=>by simp [xI]
  |_::_,0=>rfl
  |_::W,c+1=>by simpa[xI] using y9 W c
theorem aAO: ∀L:List qB,qW L=L.length
  |[]=>rfl
  |_::L=>by simp [qW,aAO L]
theorem aAP {α:Type}: ∀(l acc:List α),xH l acc=l.reverse++acc
  |[],_=>rfl
  |x::l,acc=>by simp [xH,aAP l]
theorem YZ {a:Option (Nat×qB)}{b:Option (List (Nat×qB))}{l:List (Nat×qB)}(h:N2 a b=some l): ∃q r,a=some q∧b=some r∧l=q::r:=by
  cases a<;>cases b<;>simp [N2] at h
  exact⟨_,_,rfl,rfl,h.symm⟩
def G2 (base n:Nat) (W ws:List rQ) (R:List qB) (c0:Nat) (id:Nat) (b:qB):Prop:=
  (∃(c:Nat) (i:Nat) (u:Ty) (x:u.den) (toks:pN) (o:Nat) (b0:qB),ws[c]? =some (.box i u x toks o)∧id=i∧R[c]? =some b0∧wO base n i o W u x toks b0=some (i,b))∨
  (∃(c k:Nat) (b0:qB),ws[c]? =some (.tok k)∧id=k∧R[c]? =some b0∧vH k b0=some (k,b))∨
  (∃(c:Nat) (b0:qB),R[c]? =some b0∧id=base+(c0+c)∧ws[c]? =none∧wY base n (c0+c) W b0=some (id,b))
theorem G2.succ {base n:Nat}{W:List rQ}{wh:rQ}{ws:List rQ}{b0:qB}{R:List qB}{c0 id:Nat}{b:qB}(h:G2 base n W ws R (c0+1) id b):G2 base n W (wh::ws) (b0::R) c0 id b:=by
  rcases h with⟨c,i,u,x,toks,o,b1,h1,h2,h3,h4⟩ |⟨c,k,b1,h1,h2,h3,h4⟩ |⟨c,b1,h1,h2,h3,h4⟩
  .exact .inl ⟨c+1,i,u,x,toks,o,b1,by simpa using h1,h2,by simpa using h3,h4⟩
  .exact .inr (.inl ⟨c+1,k,b1,by simpa using h1,h2,by simpa using h3,h4⟩)
  exact .inr (.inr ⟨c+1,b1,by simpa using h1,by rw[h2];omega,by simpa using h3,by rw[show c0+(c+1)=c0+1+c from by omega];exact h4⟩)
theorem G2.succ0 {base n:Nat}{W:List rQ}{b0:qB}{R:List qB}{c0 id:Nat}{b:qB}(h:G2 base n W [] R (c0+1) id b):G2 base n W [] (b0::R) c0 id b:=by
  rcases h with⟨c,i,u,x,toks,o,b1,h1,_⟩ |⟨c,k,b1,h1,_⟩ |⟨c,b1,h1,h2,h3,h4⟩
  .simp at h1
  .simp at h1
  exact .inr (.inr ⟨c+1,b1,by simpa using h1,by rw[h2];omega,by simp,by rw[show c0+(c+1)=c0+1+c from by omega];exact h4⟩)
theorem aAQ {i:Nat}{t:Ty}{ts:pN}{o:Option t.den}{q:Nat×qB}(h:a9a i t ts o=some q): ∃y,o=some y∧q=(i,.cells t y ts):=by
  cases o with
  |none=>cases h
  |some y=>exact⟨y,rfl,(aRY h).symm⟩
theorem aJ3 {base n c:Nat}{W:List rQ}{b:qB}{q:Nat×qB}(h:wY base n c W b=some q):q.1=base+c:=by
  cases b<;>simp only[wY] at h
  · split at h
    .exact(aRY h)▸rfl
    obtain⟨y,_,rfl⟩:=aAQ h;rfl
  .exact(aRY h)▸rfl
  · split at h
    .exact(aRY h)▸rfl
    cases h
  · split at h
    .exact(aRY h)▸rfl
    cases h
  .cases h
  exact(aRY h)▸rfl
def bY (base n:Nat) (W:List rQ) (t:Ty) (x y:t.den):Prop:=(t.pure=true∧y=x)∨zU base n W t x=some y
theorem Z0 {base n i o:Nat}{W:List rQ}{u t:Ty}{x:u.den}{y:t.den}{toks ts:pN}{q:Nat×qB}(h:wO base n i o W u x toks (.cells t y ts)=some q):
    ∃y2 z,bY base n W t y y2∧sD t y2 u x o=some z∧q=(i,.cells u z (qT (BP base n W o ts) (t6 toks o t.cells))):=by
  simp only[wO] at h;split at h
  · rename_i hp
    cases hs:sD t y u x o with
    |none=>rw[hs] at h;simp [R8] at h
    |some z=>rw[hs] at h;exact⟨y,z,.inl ⟨hp,rfl⟩,hs,(aRY h).symm⟩
  cases hy:zU base n W t y with
  |none=>rw[hy] at h;cases h
  | some y2=>
    rw[hy] at h;simp only[a9b] at h;cases hs:sD t y2 u x o with
    |none=>rw[hs] at h;simp [R8] at h
    |some z=>rw[hs] at h;exact⟨y2,z,.inr hy,hs,(aRY h).symm⟩
theorem aJ4 {k:Nat}{b:qB}{q:Nat×qB}(h:vH k b=some q):q.1=k:=by
  cases b<;>simp only[vH] at h
  .cases h
  .exact(aRY h)▸rfl
  · split at h
    .exact(aRY h)▸rfl
    cases h
  · split at h
    .exact(aRY h)▸rfl
    cases h
  .cases h
  exact(aRY h)▸rfl
theorem aJ5 {base n i o:Nat}{W:List rQ}{u:Ty}{x:u.den}{toks:pN}{b:qB}{q:Nat×qB}(h:wO base n i o W u x toks b=some q):q.1=i:=by
  cases b with
  |cells t y ts=>obtain⟨y2,z,_,_,rfl⟩:=Z0 h;rfl
  |grow=>simp [wO] at h
  |row=>simp [wO] at h
  |map=>simp [wO] at h
  |iter=>simp [wO] at h
  |dead=>simp only[wO,aRV] at h;exact h▸rfl
theorem LD {base n:Nat}{W:List rQ}: ∀{ws:List rQ}{R:List qB}{c0:Nat}{upd:List (Nat×qB)},zV base n W c0 ws R=some upd→
    ws.length≤R.length∧(∀id b,qE upd id=some b→G2 base n W ws R c0 id b)∧(∀id,id∈qH upd→∃b,qE upd id=some b)∧
    (∀(c:Nat) wh,ws[c]? =some wh→wh.id∈qH upd)∧(∀(c:Nat) b,R[c]? =some b→ws[c]? =none→base+(c0+c)∈qH upd)
  | [],[],_,upd,h=>by
    simp only[zV,aRV] at h;subst h;exact⟨aSl _,fun _ _ h=>by simp [qE] at h,fun _ h=>by simp [qH] at h,fun _ _ h=>by simp at h,fun _ _ h=>by simp at h⟩
  | [],b::R,c0,upd,h=>by
    simp only[zV] at h;obtain⟨q,r,h1,h2,rfl⟩:=YZ h;obtain⟨k1,k2,k3,k4,k5⟩:=LD h2;have hq:=aJ3 h1;obtain⟨q1,q2⟩:=q;simp only at hq;subst hq;refine⟨by simp,fun id b' hg=>?_,fun id hi=>?_,fun c wh hw=>by simp at hw,fun c b' hb hn=>?_⟩
    · simp only[qE] at hg
      split at hg
      · rename_i e
        obtain rfl:=aRY hg;subst e;exact .inr (.inr ⟨0,b,rfl,rfl,by simp,h1⟩)
      exact(k2 id b' hg).succ0
    · simp only[qE]
      by_cases e:base+c0=id
      .rw[aRZ e];exact⟨_,rfl⟩
      rw[aR4 e]
      simp only[qH,aSa] at hi;exact k3 id (hi.resolve_left (Ne.symm e))
    · cases c with
      |zero=>simp [qH]
      | succ c=>
        have:=k5 c b' (by simpa using hb) pK;simp only[qH,aSa];right;rw[show base+(c0+(c+1))=base+(c0+1+c) from by omega];exact this
  | .box i u x toks o::ws,[],c0,upd,h=>by simp [zV] at h
  | .tok k::ws,[],c0,upd,h=>by simp [zV] at h
  | .box i u x toks o::ws,b::R,c0,upd,h=>by
    simp only[zV] at h;obtain⟨q,r,h1,h2,rfl⟩:=YZ h;obtain⟨k1,k2,k3,k4,k5⟩:=LD h2;have hq:=aJ5 h1;obtain⟨q1,q2⟩:=q;simp only at hq;subst hq;refine⟨by simp;omega,fun id b' hg=>?_,fun id hi=>?_,fun c wh hw=>?_,fun c b' hb hn=>?_⟩
    · simp only[qE] at hg
      split at hg
      · rename_i e
        obtain rfl:=aRY hg;subst e;exact .inl ⟨0,q1,u,x,toks,o,b,rfl,rfl,rfl,h1⟩
      exact(k2 id b' hg).succ
    · simp only[qE]
      by_cases e:q1=id
      .rw[aRZ e];exact⟨_,rfl⟩
      rw[aR4 e]
      simp only[qH,aSa] at hi;exact k3 id (hi.resolve_left (Ne.symm e))
    · cases c with
      |zero=>simp only[aSt,aRV] at hw;subst hw;simp [qH,rQ.id]
      |succ c=>simp only[qH,aSa];exact .inr (k4 c wh (by simpa using hw))
    · cases c with
      |zero=>simp at hn
      | succ c=>
        have:=k5 c b' (by simpa using hb) (by simpa using hn);simp only[qH,aSa];right;rw[show base+(c0+(c+1))=base+(c0+1+c) from by omega];exact this
  | .tok k::ws,b::R,c0,upd,h=>by
    simp only[zV] at h;obtain⟨q,r,h1,h2,rfl⟩:=YZ h;obtain⟨k1,k2,k3,k4,k5⟩:=LD h2;have hq:=aJ4 h1;obtain⟨q1,q2⟩:=q;simp only at hq;subst hq;refine⟨by simp;omega,fun id b' hg=>?_,fun id hi=>?_,fun c wh hw=>?_,fun c b' hb hn=>?_⟩
    · simp only[qE] at hg
      split at hg
      · rename_i e
        obtain rfl:=aRY hg;subst e;exact .inr (.inl ⟨0,q1,b,rfl,rfl,rfl,h1⟩)
      exact(k2 id b' hg).succ
    · simp only[qE]
      by_cases e:q1=id
      .rw[aRZ e];exact⟨_,rfl⟩
      rw[aR4 e]
      simp only[qH,aSa] at hi;exact k3 id (hi.resolve_left (Ne.symm e))
    · cases c with
      |zero=>simp only[aSt,aRV] at hw;subst hw;simp [qH,rQ.id]
      |succ c=>simp only[qH,aSa];exact .inr (k4 c wh (by simpa using hw))
    cases c with
    |zero=>simp at hn
    | succ c=>
      have:=k5 c b' (by simpa using hb) (by simpa using hn);simp only[qH,aSa];right;rw[show base+(c0+(c+1))=base+(c0+1+c) from by omega];exact this
def tB (g g':Gh) (base:Nat) (W:List rQ) (ids:pS):Gh:=
  ⟨g'.S,fun i=>if base≤i∧i∈ids then g'.J (i-base) else match uW i W 0 with|some c=>g'.J c|none=>g.J i,
   fun i=>if base≤i∧i∈ids then g'.cur (i-base) else match uW i W 0 with|some c=>g'.cur c|none=>g.cur i⟩
theorem O7 {n c:Nat}{wh:Option rQ}:KS n c wh=true↔c<n∧wh=none:=by
  cases wh with
  |none=>simp [KS]
  |some wh=>simp [KS]
theorem aJ6 {base n c i:Nat}{wh:Option rQ}(h:xX base n c wh=some i):wh=some (.tok i)∨(wh=none∧c<n∧i=base+c):=by
  cases wh with
  | none=>
    simp only[xX] at h;split at h
    .rename_i hc;exact .inr ⟨rfl,hc,(aRY h).symm⟩
    .cases h
  | some wh=>
    cases wh with
    |box=>cases h
    |tok k=>simp only[xX,aRV] at h;subst h;exact .inl rfl
theorem TH {i:Nat}: ∀{ws:List rQ}{c0:Nat},(∀c:Nat,ws[c]? ≠some (.tok i))→uW i ws c0=none
  |[],_,_=>rfl
  | .tok j::r,c0,h=>by
    simp only[uW];split
    .rename_i e;subst e;exact absurd rfl (h 0)
    .exact TH (fun c=>by have:=h (c+1);simpa using this)
  | .box _ _ _ _ _::r,c0,h=>by
    simp only[uW];exact TH (fun c=>by have:=h (c+1);simpa using this)
theorem aJ7 {i c:Nat}{ws:List rQ}(hnd:(sC ws).Nodup) (h:ws[c]? =some (.tok i)):uW i ws 0=some c:=by
  cases hc:uW i ws 0 with
  | none=>
    exfalso
    have: ∀{ws:List rQ}{c0 c:Nat},ws[c]? =some (.tok i)→uW i ws c0≠none:=by
      intro ws
      induction ws with
      |nil=>intro c0 c h;simp at h
      | cons wh r ih=>
        intro c0 c h;cases c with
        | zero=>
          simp only[aSt,aRV] at h;subst h;simp [uW]
        | succ c=>
          simp only[aSx] at h;cases wh with
          |box=>exact ih h
          | tok j=>
            simp only[uW];split
            .simp
            exact ih h
    exact this h hc
  | some d=>
    obtain⟨d',e1,h2⟩:=G0 hc;rw[aSu] at e1;subst e1;rw[TF hnd h h2 rfl]
theorem Fr.mono {A B:Nat→Nat→Prop}{w w':pT}{S S':Nat→Nat→Prop}(h:Fr A w w' S S') (hAB: ∀b o,A b o→B b o):Fr B w w' S S':=
  ⟨h.os,h.tape,h.output,h.size,fun b hb hn=>h.blk b hb (fun o ho=>hn o (hAB b o ho)),fun b o hb hn=>h.cell b o hb (fun ho=>hn (hAB b o ho)),fun b o hs=>(h.new b o hs).imp id (Or.imp id (hAB b o)),fun b s hs=>(h.shape b s hs).imp id fun h o=>hAB b o (h o)⟩
theorem TJ {base n:Nat}{W:List rQ}{o:Nat}: ∀{ts:pN}{q k:Nat},(q,k)∈BP base n W o ts→∃q' c,(q',c)∈ts∧xX base n c (xI W c)=some k∧q=o+q'
  |[],_,_,h=>by simp [BP] at h
  | (q',c)::r,q,k,h=>by
    simp only[BP] at h;cases hn:xX base n c (xI W c) with
    | none=>
      rw[hn] at h;obtain⟨a,b,h1,h2⟩:=TJ h;exact⟨a,b,aSb _ h1,h2⟩
    | some k'=>
      rw[hn] at h;rcases aSa.1 h with h|h
      · simp only[aSp] at h
        obtain⟨rfl,rfl⟩:=h;exact⟨q',c,by simp,hn,rfl⟩
      obtain⟨a,b,h1,h2⟩:=TJ h
      exact⟨a,b,aSb _ h1,h2⟩
theorem vU {α:Type}{x:α}: ∀{l m:List α},x∈qT l m↔x∈l∨x∈m
  |[],m=>by simp [qT]
  |y::l,m=>by simp [qT,vU (l:=l),or_assoc]
theorem Z1: ∀{toks:pN}{off n q k:Nat},(q,k)∈t6 toks off n→(q,k)∈toks∧¬(off≤q∧q<off+n)
  |[],_,_,_,_,h=>by simp [t6] at h
  | (q',k')::r,off,n,q,k,h=>by
    simp only[t6] at h;split at h
    · obtain⟨h1,h2⟩:=Z1 h
      exact⟨aSb _ h1,h2⟩
    rename_i hn
    rcases aSa.1 h with h|h
    · cases h
      exact⟨by simp,hn⟩
    obtain⟨h1,h2⟩:=Z1 h
    exact⟨aSb _ h1,h2⟩
section
variable {g g':Gh}{w w':pT}{H:rZ}{W:List rQ}{L:List qB}{r:qJ}{v:pU}{base:Nat}{upd:List (Nat×qB)}
variable (hH:sA g w H) (hm:O5 H W L) (hr:CZ (uD g W) w L r g' w' v) (hb:zV base r.H.length W 0 W r.H=some upd) (hf: ∀i,i∈qH upd→base≤i→g.J i=none∧∀n,g.cur i n=none)
include hH hm hr hb hf
theorem BY {c:Nat}{wh:rQ}(hw:W[c]? =some wh):wh.id∈qH upd∧wh.id<base∧∃b,L[c]? =some b∧TD H W wh b:=by
  have hin:=(LD hb).2.2.2.1 c wh hw;have hlt:c<L.length:=hm.len▸(aR7.1 hw).1;have hok:=hm.ok c wh _ hw (aR3 hlt);refine⟨hin,Nat.lt_of_not_le fun hle=>?_,_,aR3 hlt,hok⟩;have hfr:=hf _ hin hle;cases wh with
  | box i u x toks o=>
    cases hL:L[c] with
    | cells t y ts=>
      rw[hL] at hok;obtain⟨p,cs,hp,_⟩:=hH.blk i _ hok.1;rw[show (rQ.box i u x toks o).id=i from rfl] at hfr;rw[hfr.1] at hp;cases hp
    |_=>rw[hL] at hok;exact hok.elim
  | tok k=>
    cases hL:L[c] with
    | grow e cc m=>
      rw[hL] at hok;obtain⟨v,xs,hv,_⟩:=hH.blk k _ hok;rw[show (rQ.tok k).id=k from rfl] at hfr;rw[hfr.2] at hv;cases hv
    | map s t l=>
      rw[hL] at hok;obtain⟨p,es,cl,hp,_⟩:=hH.blk k _ hok.1;rw[show (rQ.tok k).id=k from rfl] at hfr;rw[hfr.1] at hp;cases hp
    | row e t l m=>
      rw[hL] at hok;obtain⟨_,v,xs,hv,_⟩:=hH.blk k _ hok.1;rw[show (rQ.tok k).id=k from rfl] at hfr;rw[hfr.2] at hv;cases hv
    |_=>rw[hL] at hok;exact hok.elim
theorem aJ8 {c:Nat}(hc:c<r.H.length) (hn:W[c]? =none):base+c∈qH upd:=by
  have:=(LD hb).2.2.2.2 c _ (aR3 hc) hn;simpa using this
theorem IV {c:Nat}(hc:c<r.H.length) (hn:W[c]? =none):(tB g g' base W (qH upd)).J (base+c)=g'.J c∧(tB g g' base W (qH upd)).cur (base+c)=g'.cur c:=by
  have hin:=aJ8 hH hm hr hb hf hc hn;refine⟨?_,?_⟩
  · show (if base≤base+c∧base+c∈qH upd then _ else _)=_
    rw[aRZ ⟨pI,hin⟩,aSB]
  show (if base≤base+c∧base+c∈qH upd then _ else _)=_
  rw[aRZ ⟨pI,hin⟩,aSB]
theorem aAR {i:Nat}(hi: ¬(base≤i∧i∈qH upd)) (hn:uW i W 0=none):(tB g g' base W (qH upd)).J i=g.J i∧(tB g g' base W (qH upd)).cur i=g.cur i:=by
  refine⟨?_,?_⟩
  · show (if base≤i∧i∈qH upd then _ else _)=_
    rw[aR4 hi,hn]
  show (if base≤i∧i∈qH upd then _ else _)=_
  rw[aR4 hi,hn]
theorem aAS {c k:Nat}(hw:W[c]? =some (.tok k)):(tB g g' base W (qH upd)).J k=g'.J c∧(tB g g' base W (qH upd)).cur k=g'.cur c:=by
  have hlt:=(BY hH hm hr hb hf hw).2.1;simp only[rQ.id] at hlt;have hc:=aJ7 hm.nodup hw;refine⟨?_,?_⟩
  · show (if base≤k∧k∈qH upd then _ else _)=_
    rw[aR4 pI,hc]
  show (if base≤k∧k∈qH upd then _ else _)=_
  rw[aR4 pI,hc]
theorem LE {c i:Nat}{u:Ty}{x:u.den}{toks:pN}{o:Nat}(hw:W[c]? =some (.box i u x toks o)):(tB g g' base W (qH upd)).J i=g.J i∧(tB g g' base W (qH upd)).cur i=g.cur i:=by
  have hlt:=(BY hH hm hr hb hf hw).2.1;simp only[rQ.id] at hlt;refine aAR hH hm hr hb hf pI (TH fun d hd=>?_);have:=TF hm.nodup hw hd rfl;subst this;rw[hw] at hd;cases hd
theorem EB {c i:Nat}(hi:xX base r.H.length c W[c]? =some i):(tB g g' base W (qH upd)).J i=g'.J c∧(tB g g' base W (qH upd)).cur i=g'.cur c:=by
  rcases aJ6 hi with h|⟨h1,h2,rfl⟩
  .exact aAS hH hm hr hb hf h
  exact IV hH hm hr hb hf h2 h1
theorem aAT:Le g w (tB g g' base W (qH upd)) w':=by
  have len: ∀{i c:Nat},uW i W 0=some c→W[c]? =some (.tok i)∧c<L.length:=by
    intro i c h;obtain⟨d,e1,h2⟩:=G0 h;rw[aSu] at e1;subst e1;exact⟨h2,hm.len▸(aR7.1 h2).1⟩
  refine⟨fun b o h=>(hr.shut b o h).1,fun b o h=>(hr.shut b o h).2,fun i p h=>?_,fun i n u h=>?_⟩
  · show (if base≤i∧i∈qH upd then _ else _)=_
    rw[aR4 (fun⟨h1,h2⟩=>by rw[(hf i h2 h1).1] at h;cases h)];cases hc:uW i W 0 with
    |none=>exact h
    | some c=>
      obtain⟨h1,h2⟩:=len hc;refine hr.Jt c p h2 ?_;show uC g W[c]? =_;rw[h1];exact h
  show (if base≤i∧i∈qH upd then g'.cur (i-base) else match uW i W 0 with|some c=>g'.cur c|none=>g.cur i) n=_
  rw[aR4 (fun⟨h1,h2⟩=>by rw[(hf i h2 h1).2] at h;cases h)];cases hc:uW i W 0 with
  |none=>exact h
  | some c=>
    obtain⟨h1,h2⟩:=len hc;refine hr.cur c n u h2 ?_;show y8 g W[c]? n=_;rw[h1];exact h
theorem aJ9 {t:Ty}{x y:t.den}{cs:pP}(hx:Rd g' w' t x cs) (h:zU base r.H.length W t x=some y):Rd (tB g g' base W (qH upd)) w' t y cs:=by
  refine TE (g:=g') (g':=tB g g' base W (qH upd)) rfl (zU base r.H.length W) (fun a b x=>rfl) (fun t x=>rfl) (fun _=>rfl) (fun _ _=>rfl) (fun _=>rfl) (fun _=>rfl) (fun _=>rfl) (fun _ _ x y cs h hx=>?_) (fun x y cs h hx=>?_) (fun x y cs h hx=>?_) (fun x y cs h hx=>?_) (fun x y cs h hx=>?_) (fun _=>rfl) hx h
  rotate_left 2
  · obtain⟨c,i,⟨k3,n3⟩,⟨k4,n4⟩⟩:=x
    simp only[zU,a89,y9] at h;obtain⟨i',k3',k4',e1,e2,e3,rfl⟩:=aAy h;refine YW (g:=g') (g':=tB g g' base W (qH upd)) (fun _ _ h=>⟨h,rfl⟩) (fun p hp=>?_) (fun v hv=>?_) (fun v hv=>?_) hx
    · unfold N1 at e1
      split at e1
      · rename_i i0 uu x toks o' hwh
        simp only[aRV,aSp] at e1;obtain⟨rfl,h0⟩:=e1;obtain⟨_,hlt,b,hL,hok⟩:=BY hH hm hr hb hf hwh;cases b with
        | cells t y ts=>
          have hJ:=hr.J i t y ts hL;rw[hp] at hJ;have hJ':uC g W[i]? =some p:=hJ.symm;rw[hwh] at hJ';obtain⟨p0,hp0,rfl⟩:=aR8.1 hJ';exact⟨p0,by rw[(LE hH hm hr hb hf hwh).1];exact hp0,rfl,by simp;omega⟩
        |_=>exact hok.elim
      split at e1
      · rename_i hn
        simp only[aRV,aSp] at e1;obtain⟨rfl,-⟩:=e1;obtain⟨h1,h2⟩:=O7.1 hn;exact⟨p,by rw[(IV hH hm hr hb hf h1 h2).1];exact hp,rfl,rfl⟩
      cases e1
    .rw[(EB hH hm hr hb hf e2).2];exact hv
    rw[(EB hH hm hr hb hf e3).2];exact hv
  rotate_left 2
  · cases x with
    |none=>cases h;exact hx
    | some q=>
      obtain⟨c,n⟩:=q;simp only[zU,a88,y9] at h;obtain⟨i,hi,rfl⟩:=aR8.1 h;obtain⟨v,hv,hs⟩:=hx;exact⟨v,by rw[(EB hH hm hr hb hf hi).2];exact hv,hs⟩
  · cases x with
    |none=>cases h;exact hx
    | some q=>
      obtain⟨c,o⟩:=q;simp only[zU,HZ] at h;obtain⟨p,hp,hv⟩:=hx;unfold HZ.back2 at h;split at h
      · rename_i i uu x toks o' hwh
        cases h;rw[y9] at hwh;obtain⟨_,hlt,b,hL,hok⟩:=BY hH hm hr hb hf hwh;cases b with
        | cells t y ts=>
          have hJ:=hr.J c t y ts hL;rw[hp] at hJ;have hJ':uC g W[c]? =some p:=hJ.symm;rw[hwh] at hJ';obtain⟨p0,hp0,rfl⟩:=aR8.1 hJ';exact⟨p0,by rw[(LE hH hm hr hb hf hwh).1];exact hp0,by have:=hv.1;rwa [aSz] at this,hv.2.imp id fun hv=>by rw[hv];simp [aSz]⟩
        |_=>exact hok.elim
      split at h
      · rename_i hn
        cases h;obtain⟨h1,h2⟩:=O7.1 hn;rw[y9] at h2;exact⟨p,by rw[(IV hH hm hr hb hf h1 h2).1];exact hp,hv⟩
      cases h
  · cases x with
    |none=>cases h;exact hx
    | some q=>
      obtain⟨c,o⟩:=q;simp only[zU,HZ] at h;obtain⟨p,hp,hv⟩:=hx;unfold HZ.back2 at h;split at h
      · rename_i i uu x toks o' hwh
        cases h;rw[y9] at hwh;obtain⟨_,hlt,b,hL,hok⟩:=BY hH hm hr hb hf hwh;cases b with
        | cells t y ts=>
          have hJ:=hr.J c t y ts hL;rw[hp] at hJ;have hJ':uC g W[c]? =some p:=hJ.symm;rw[hwh] at hJ';obtain⟨p0,hp0,rfl⟩:=aR8.1 hJ';exact⟨p0,by rw[(LE hH hm hr hb hf hwh).1];exact hp0,by rw[hv];simp [aSz]⟩
        |_=>exact hok.elim
      split at h
      · rename_i hn
        cases h;obtain⟨h1,h2⟩:=O7.1 hn;rw[y9] at h2;exact⟨p,by rw[(IV hH hm hr hb hf h1 h2).1];exact hp,hv⟩
      cases h
  cases x with
  |none=>cases h;exact hx
  | some c=>
    simp only[zU,a87,y9] at h;obtain⟨i,hi,rfl⟩:=aR8.1 h;obtain⟨p,hp,hv⟩:=hx;exact⟨p,by rw[(EB hH hm hr hb hf hi).1];exact hp,hv⟩
theorem aAU {t:Ty}{x y:t.den}{cs:pP}(hx:Rd g' w' t x cs) (h:bY base r.H.length W t x y):Rd (tB g g' base W (qH upd)) w' t y cs:=by
  rcases h with⟨hp,rfl⟩ |h
  .exact uY (g:=g') (g':=tB g g' base W (qH upd)) rfl hp hx
  exact aJ9 hH hm hr hb hf hx h
omit hH hm hr hb hf in
theorem aAV {n:Nat}{t u:Ty}{x y:t.den}{o:Nat}{l:List u.den}(h:bY base n W t x y) (hg:qZ (.list u) t x o=some l):qZ (.list u) t y o=some l:=by
  rcases h with⟨_,rfl⟩ |h
  .exact hg
  exact YV (zU base n W) (fun _ _ _=>rfl) (fun _ _=>rfl) h hg
theorem aAW: ∀(cs:pN) {l:pN}{vs:pP},x5 g' cs vs→KT base r.H.length W cs=some l→x5 (tB g g' base W (qH upd)) l vs
  |[],l,vs,h,e=>by cases e;exact h
  | (c,o)::cs,l,vs,⟨p,vs',hp,hv,hr'⟩,e=>by
    unfold KT at e;cases h1:N1 base r.H.length c o (xI W c) with
    |none=>rw[h1] at e;cases e
    | some q=>
      cases h2:KT base r.H.length W cs with
      |none=>rw[h1,h2] at e;cases e
      | some l'=>
        rw[h1,h2] at e;cases e;refine(?_ : ∃p vs',_);have ih:=aAW cs hr' h2;unfold N1 at h1;split at h1
        · rename_i i uu x toks o' hwh
          cases h1;rw[y9] at hwh;obtain⟨_,hlt,b,hL,hok⟩:=BY hH hm hr hb hf hwh;cases b with
          | cells t y ts=>
            have hJ:=hr.J c t y ts hL;rw[hp] at hJ;have hJ':uC g W[c]? =some p:=hJ.symm;rw[hwh] at hJ';obtain⟨p0,hp0,rfl⟩:=aR8.1 hJ';exact⟨p0,vs',by rw[(LE hH hm hr hb hf hwh).1];exact hp0,by rw[hv];simp [aSz],ih⟩
          |_=>exact hok.elim
        split at h1
        · rename_i hn
          cases h1;obtain⟨h3,h4⟩:=O7.1 hn;rw[y9] at h4;exact⟨p,vs',by rw[(IV hH hm hr hb hf h3 h4).1];exact hp,hv,ih⟩
        cases h1
theorem aKa {s:qC}{u:pU}(h:rN g' w' s u):rN (tB g g' base W (qH upd)) w' (R7 base r.H.length W s) u:=by
  obtain⟨d,k⟩:=s
  have tokk: ∀{t:Ty}(hp:t.pure=true) {x:t.den}{k:pR},(∀c,k=some c→∃u,t= .list u)→rN g' w' (.val t x,k) u→rN (tB g g' base W (qH upd)) w' (.val t x,HY base r.H.length W k) u:=by
    intro t hp x k hl h;cases k with
    |none=>exact T9 (g:=g') (g':=tB g g' base W (qH upd)) (k:=none) (k':=none) rfl hp (fun c e=>by cases e) h (fun c e=>by cases e) (fun _=>rfl)
    | some c=>
      simp only[HY,y9];cases hn:xX base r.H.length c W[c]? with
      | some i=>
        refine T9 (g:=g') (g':=tB g g' base W (qH upd)) (k:=some c) (k':=some i) rfl hp hl h (fun c' e=>?_) (fun e=>by cases e);cases e;refine⟨_,rfl,fun n u hu=>?_⟩;rw[(EB hH hm hr hb hf hn).2];exact hu
      | none=>
        exact T9 (g:=g') (g':=tB g g' base W (qH upd)) (k:=none) (k':=none) rfl hp (fun c e=>by cases e) ⟨h.1,trivial⟩ (fun c e=>by cases e) (fun _=>rfl)
  unfold R7;split
  · rename_i c m k' heq
    simp only[aSp] at heq;obtain⟨rfl,rfl⟩:=heq;simp only[HY,y9];cases hn:xX base r.H.length c W[c]? with
    | some i=>
      obtain⟨h3,h4⟩:=h.1;exact⟨⟨by rw[(EB hH hm hr hb hf hn).2];exact h3,h4⟩,trivial⟩
    |none=>exact⟨trivial,trivial⟩
  · rename_i c o k' heq
    simp only[aSp] at heq;obtain⟨rfl,rfl⟩:=heq;obtain⟨p,hp,hv⟩:=wC h.1;unfold a86;split
    · rename_i i uu x toks o' hwh
      rw[y9] at hwh;obtain⟨_,hlt,b,hL,hok⟩:=BY hH hm hr hb hf hwh;cases b with
      | cells t y ts=>
        have hJ:=hr.J c t y ts hL;rw[hp] at hJ;have hJ':uC g W[c]? =some p:=hJ.symm;rw[hwh] at hJ';obtain⟨p0,hp0,rfl⟩:=aR8.1 hJ';refine⟨.inr ⟨rfl,p0,by rw[(LE hH hm hr hb hf hwh).1];exact hp0,?_⟩,trivial⟩;rw[hv];simp [aSz]
      |_=>exact hok.elim
    split
    · rename_i hn
      obtain⟨h1,h2⟩:=O7.1 hn;rw[y9] at h2;exact⟨.inr ⟨rfl,p,by rw[(IV hH hm hr hb hf h1 h2).1];exact hp,by rw[hv]⟩,trivial⟩
    exact⟨trivial,trivial⟩
  · rename_i k' heq
    simp only[aSp] at heq;obtain⟨rfl,rfl⟩:=heq;rcases h.1 with⟨h1,_⟩ |⟨h1,h2⟩
    .cases h1
    exact⟨.inr ⟨h1,h2⟩,trivial⟩
  · rename_i c k' heq
    simp only[aSp] at heq;obtain⟨rfl,rfl⟩:=heq;simp only[HY,y9];cases hn:xX base r.H.length c W[c]? with
    | some i=>
      obtain⟨p,hp,hv⟩:II g' (some c) [u]:=wB rfl h.1;exact⟨.inr ⟨rfl,p,by rw[(EB hH hm hr hb hf hn).1];exact hp,hv⟩,trivial⟩
    |none=>exact⟨trivial,trivial⟩
  · rename_i k' heq
    simp only[aSp] at heq;obtain⟨rfl,rfl⟩:=heq;rcases h.1 with⟨h1,_⟩ |⟨h1,h2⟩
    .cases h1
    exact⟨.inr ⟨h1,h2⟩,trivial⟩
  · rename_i f cs k' heq
    simp only[aSp] at heq;obtain⟨rfl,rfl⟩:=heq;cases hc:KT base r.H.length W cs with
    |none=>exact⟨trivial,trivial⟩
    | some l=>
      rcases h.1 with⟨h1,_⟩ |⟨_,vs,h2,h3⟩
      .cases h1
      exact⟨.inr ⟨rfl,vs,aAW hH hm hr hb hf cs h2 hc,h3⟩,trivial⟩
  · rename_i t x k' hno hno0 hno2 hno3 hno4 heq
    simp only[aSp] at heq;obtain⟨rfl,rfl⟩:=heq;split
    · rename_i hp
      exact tokk hp aJO (aAw h)
    exact⟨trivial,trivial⟩
  exact⟨trivial,trivial⟩
end
theorem aAX {g:Gh}{w:pT}{H:rZ}{W:List rQ}{L:List qB}(hH:sA g w H) (hm:O5 H W L) {bb oo:Nat}(h:x6 (uD g W) (qS 0 L) bb oo):
  ∃(c:Nat) (wh:rQ) (b blk:qB),W[c]? =some wh/\L[c]? =some b/\s6 (uD g W) c b bb oo/\qE H wh.id=some blk/\s6 g wh.id blk bb oo:=by
 obtain⟨c,b,hc,ho⟩:=h;rw[wD] at hc;have hlt:c<W.length:=hm.len▸(aR7.1 hc).1;have hwh:W[c]? =some W[c]:=aR3 hlt;have hw:=hm.ok c _ b hwh hc;refine⟨c,W[c],b,?_⟩;generalize W[c]=wh at hwh hw;cases wh with
 |box i u x toks off=>
  cases b with
  |cells t y ts=>
   obtain⟨h1,⟨y0,h2,h3⟩,h4⟩:=hw;obtain⟨p,hp,e1,e2,e3⟩:=ho;have hp':uC g W[c]? =some p:=hp;rw[hwh] at hp';obtain⟨p0,hp0,rfl⟩:=aR8.1 hp';obtain⟨p1,cs,hp1,hR,_⟩:=hH.blk i _ h1;obtain⟨c1,c2,c3,hcs,hl,hR2⟩:=A1 hR h2;have l1:=sJ hR;have l2:=sJ hR2;rw[hcs] at l1;simp only[aRX] at l1;exact⟨_,hwh,hc,⟨_,hp,e1,e2,e3⟩,h1,p0,hp0,e1,by simp at e2;omega,by simp at e3;omega⟩
  |_=>exact hw.elim
 |tok k=>
  cases b with
  |grow e cc m=>
   obtain⟨v,hv,hb⟩:=ho;have hv':y8 g W[c]? m=some v:=hv;rw[hwh] at hv';exact⟨_,hwh,hc,⟨v,hv,hb⟩,hw,v,hv',hb⟩
  |map s t l=>
   obtain⟨p,hp,hb⟩:=ho;have hp':uC g W[c]? =some p:=hp;rw[hwh] at hp';exact⟨_,hwh,hc,⟨p,hp,hb⟩,hw.1,p,hp',hb⟩
  |row e t l m=>
   obtain⟨v,hv,hb⟩:=ho;have hv':y8 g W[c]? m=some v:=hv;rw[hwh] at hv';exact⟨_,hwh,hc,⟨v,hv,hb⟩,hw.1,v,hv',hb⟩
  |_=>exact hw.elim
section
variable {g g':Gh}{w w':pT}{H:rZ}{W:List rQ}{L:List qB}{r:qJ}{v:pU}{base:Nat}{upd:List (Nat×qB)}
variable (hH:sA g w H) (hm:O5 H W L) (hr:CZ (uD g W) w L r g' w' v) (hb:zV base r.H.length W 0 W r.H=some upd) (hf: ∀i,i∈qH upd->base<=i->g.J i=none/\∀n,g.cur i n=none)
include hH hm hr hb hf
theorem Z2 {b o:Nat}(h:x6 (uD g W) (qS 0 L) b o):sI g H (qH upd) b o:=by
 obtain⟨c,wh,b0,blk,h1,h2,h3,h4,h5⟩:=aAX hH hm h;exact⟨wh.id,blk,(BY hH hm hr hb hf h1).1,h4,h5⟩
theorem aKb:Fr (sI g H (qH upd)) w w' g.S (tB g g' base W (qH upd)).S:=hr.fr.mono fun _ _ h=>Z2 hH hm hr hb hf h
theorem TK {id:Nat}{b:qB}(hi:id∈qH upd) (hg:qE (qT upd H) id=some b):G2 base r.H.length W W r.H 0 id b:=by
 obtain⟨_,k2,k3,_⟩:=LD hb;obtain⟨b',hb'⟩:=k3 id hi;have:qE (qT upd H) id=some b':=by
  have: ∀{u:List (Nat×qB)},qE u id=some b'->qE (qT u H) id=some b':=by
   intro u
   induction u with
   |nil=>intro h;cases h
   |cons q u ih=>
    intro h;simp only[qT,qE] at h|-;split
    .rename_i e;rw[aRZ e] at h;exact h
    rename_i e;rw[aR4 e] at h;exact ih h
  exact this hb'
 rw[this] at hg;obtain rfl:=aRY hg;exact k2 id b' hb'
theorem Z3 {c i o:Nat}{u:Ty}{x:u.den}{toks:pN}{b0 b:qB}(hW:W[c]? =some (.box i u x toks o)) (hR:r.H[c]? =some b0) (hbb:wO base r.H.length i o W u x toks b0=some (i,b)):
  yK (tB g g' base W (qH upd)) w' i b/\(∀bb oo,s6 (tB g g' base W (qH upd)) i b bb oo->s6 g i (.cells u x toks) bb oo/\qE H i=some (.cells u x toks))/\
   ∀bb oo,s6 (tB g g' base W (qH upd)) i b bb oo->s6 g' c b0 bb oo\/(bb<w.heap.size/\¬x6 (uD g W) (qS 0 L) bb oo):=by
 obtain⟨hin,hlt,bL,hL,hok⟩:=BY hH hm hr hb hf hW;have hJi:=(LE hH hm hr hb hf hW).1;have hle:=aAT hH hm hr hb hf;cases bL with
 |grow=>exact hok.elim
 |row=>exact hok.elim
 |map=>exact hok.elim
 |iter=>exact hok.elim
 |dead=>exact hok.elim
 |cells tL yL tsL=>
  obtain⟨h1,h2,h4⟩:=hok;obtain⟨p,cs,hp,hRd,hra,hth,hns,htk⟩:=hH.blk i _ h1;cases b0 with
  |grow=>simp [wO] at hbb
  |row=>simp [wO] at hbb
  |map=>simp [wO] at hbb
  |iter=>simp [wO] at hbb
  |dead=>
   simp only[wO,aRV,aSp,true_and] at hbb;subst hbb;exact⟨trivial,fun _ _ h=>h.elim,fun _ _ h=>h.elim⟩
  |cells t y ts=>
   have htt:=hr.ty c _ _ _ _ _ _ hL hR;subst htt;obtain⟨y2,z,hbY,hset,hq⟩:=Z0 hbb
   simp only[aSp,true_and] at hq;subst hq;have hblk:=hr.heap.blk c _ (by rw[wD];exact hR);obtain⟨p',cs',hp',hRd',hra',hth',hns',htk'⟩:=hblk;have hJc:=hr.J c _ _ _ hL;have hpc:g'.J c=some ⟨p.1,p.2+o,p.3⟩:=by
    rw[hJc];show uC g W[c]? =_;rw[hW];simp [uC,hp]
   rw[hpc] at hp';obtain rfl:=aRY hp';have hRdx:Rd (tB g g' base W (qH upd)) w' u x cs:=vK hle hRd;have hRdy:Rd (tB g g' base W (qH upd)) w' t y2 cs':=aAU hH hm hr hb hf hRd' hbY;obtain⟨c1,c2,c3,hcs,hl1,hl2,hz⟩:=NW hRdy hRdx hset;subst hcs;subst hl1;have l0:=sJ hRd;have l1:=sJ hRd';simp only[aRX] at l0;have hfar: ∀q,q<u.cells->¬(c1.length<=q/\q<c1.length+t.cells)->¬x6 (uD g W) (qS 0 L) p.1 (p.2+q):=by
    intro q hq hno hown;obtain⟨c',wh',b',blk',k1,k2,k3,k4,k5⟩:=aAX hH hm hown;by_cases hcc:c'=c
    .subst hcc;rw[hW] at k1;obtain rfl:=aRY k1;rw[hL] at k2;obtain rfl:=aRY k2;obtain⟨pp,hpp,e1,e2,e3⟩:=k3;have hpp':uC g W[c']? =some pp:=hpp;rw[hW] at hpp';simp only[uC,hp,Option.map_some,aRV] at hpp';subst hpp';simp only at e2 e3;exact hno ⟨pI,pI⟩
    have hid:wh'.id≠i:=fun e=>hcc (TF hm.nodup k1 hW e);exact hH.dis wh'.id i blk' _ p.1 (p.2+q) hid k4 h1 k5 ⟨p,hp,rfl,pI,pI⟩
   have hlt': ∀q,q<u.cells->p.1<w.heap.size:=fun q hq=>IL (hH.blk i _ h1) (b:=p.1) (o:=p.2+q) ⟨p,hp,rfl,pI,pI⟩;have hkeep: ∀q,q<u.cells->¬(c1.length<=q/\q<c1.length+t.cells)->w'.cell? ⟨p.1,p.2+q,none⟩=w.cell? ⟨p.1,p.2+q,none⟩/\w'.frozen? ⟨p.1,p.2+q,none⟩=w.frozen? ⟨p.1,p.2+q,none⟩:=fun q hq hno=>hr.fr.cell _ _ (hlt' q hq) (hfar q hq hno);refine⟨⟨p,c1++cs'++c3,by rw[hJi];exact hp,hz,fun q vv hv=>?_,⟨fun q hq=>?_,fun h0 s hs=>?_⟩,fun q hq hs=>?_,?_⟩,fun bb oo ho=>⟨?_,h1⟩,fun bb oo ho=>?_⟩
   .by_cases a1:q<c1.length
    .rw[(hkeep q pI pI).1];refine hra q vv ?_;rw[aR9,aSc a1] at hv|-;exact hv
    by_cases a2:q<c1.length+t.cells
    .rw[aR9,aR5 pI,aSc pI] at hv;have:=hra' (q-c1.length) vv hv;rwa [show p.2+c1.length+(q-c1.length)=p.2+q from by omega] at this
    rw[aR9,aR5 pI,aR5 pI] at hv;have hq:q<u.cells:=by
     have:=(aR7.1 hv).1;omega
    rw[(hkeep q hq pI).1];refine hra q vv ?_;rw[aR9,aR5 pI,aR5 pI,hl2];rw[l1] at hv;exact hv
   .by_cases a1:c1.length<=q/\q<c1.length+t.cells
    .have:=hth'.1 (q-c1.length) pI;rwa [show p.2+c1.length+(q-c1.length)=p.2+q from by omega] at this
    rw[(hkeep q hq a1).1,(hkeep q hq a1).2];exact hth.1 q hq
   .by_cases ht0:0<t.cells
    .exact hth'.2 ht0 s hs
    exact(hr.fr.shape p.1 s (hth.2 h0 s hs)).resolve_right fun h=>hfar 0 h0 pI (h (p.2+0))
   .by_cases a1:c1.length<=q/\q<c1.length+t.cells
    .exact hns' (q-c1.length) pI (by rw[show p.2+c1.length+(q-c1.length)=p.2+q from by omega];exact hs)
    rcases hr.fr.new _ _ hs with k|k|k
    .exact hns q hq k
    .have:=hlt' q hq;omega
    exact hfar q hq a1 k
   .intro q kk hmem;rcases vU.1 hmem with hmem|hmem
    .obtain⟨q',c',k1,k2,rfl⟩:=TJ hmem;rw[y9] at k2;obtain⟨u',l,vv,g1,g2,g3⟩:=htk' q' c' k1;have hq':=aAn g1;refine⟨u',l,vv,aAm hset (aAV hbY g1) hq',?_,?_⟩
     .rw[aR9,aR5 pI,aSB,aSc pI];exact g2
     rw[(EB hH hm hr hb hf k2).2];exact g3
    obtain⟨k1,k2⟩:=Z1 hmem;obtain⟨u',l,vv,g1,g2,g3⟩:=htk q kk k1;refine⟨u',l,vv,T0 hH hset g1 k2,?_,hle.cur _ _ _ g3⟩;rcases aSQ q c1.length with a1|a1
    .rw[aR9,aSc a1] at g2|-;exact g2
    rw[aR9,aR5 pI,aR5 pI] at g2|-;rw[l1];rw[hl2] at g2;exact g2
   .obtain⟨pp,hpp,e1,e2,e3⟩:=ho;rw[hJi,hp] at hpp;obtain rfl:=aRY hpp;exact⟨p,hp,e1,e2,e3⟩
   obtain⟨pp,hpp,e1,e2,e3⟩:=ho;rw[hJi,hp] at hpp;obtain rfl:=aRY hpp;subst e1;by_cases a1:c1.length<=oo-p.2/\oo-p.2<c1.length+t.cells
   .exact .inl ⟨_,hpc,rfl,by simp only;omega,by simp only;omega⟩
   right;refine⟨hlt' (oo-p.2) pI,?_⟩;have:=hfar (oo-p.2) pI a1;rwa [show p.2+(oo-p.2)=oo from by omega] at this
theorem Z4 {c:Nat}{b0 b:qB}(hn:W[c]? =none) (hR:r.H[c]? =some b0) (hbn:wY base r.H.length c W b0=some (base+c,b)):
  yK (tB g g' base W (qH upd)) w' (base+c) b/\∀bb oo,s6 (tB g g' base W (qH upd)) (base+c) b bb oo->s6 g' c b0 bb oo:=by
 have hc:=(aR7.1 hR).1;obtain⟨hJ,hcur⟩:=IV hH hm hr hb hf hc hn;have hblk:=hr.heap.blk c _ (by rw[wD];exact hR);cases b0 with
 |dead=>
  simp only[wY,aRV,aSp,true_and] at hbn;subst hbn;exact⟨trivial,fun _ _ h=>h.elim⟩
 |grow e m k=>
  simp only[wY,aRV,aSp,true_and] at hbn;subst hbn;obtain⟨u,xs,hv,h1,h2,h3⟩:=hblk;exact⟨⟨u,xs,by rw[hcur];exact hv,h1,fun m hm'=>by rw[hcur];exact h2 m hm',h3⟩,fun bb oo ⟨v',hv',hb'⟩=>⟨v',by rw[hcur] at hv';exact hv',hb'⟩⟩
 |row e t l n=>
  simp only[wY] at hbn;split at hbn
  .rename_i hp;simp only[aRV,aSp,true_and] at hbn;subst hbn;obtain⟨h0,u,xs,hv,h1,h4,h2,h3⟩:=hblk;exact⟨⟨h0,u,xs,by rw[hcur];exact hv,h1,AL (fun _ _ h=>uY (g:=g') (g':=tB g g' base W (qH upd)) rfl hp h) h4,fun m hm'=>by rw[hcur];exact h2 m hm',h3⟩,fun bb oo ⟨v',hv',hb'⟩=>⟨v',by rw[hcur] at hv';exact hv',hb'⟩⟩
  .cases hbn
 |iter s n=>simp [wY] at hbn
 |map k v l=>
  simp only[wY] at hbn;split at hbn
  .rename_i hp;rw[aSj] at hp;simp only[aRV,aSp,true_and] at hbn;subst hbn;obtain⟨p,es,cl,hp1,hp0,hh,hM,hS⟩:=hblk;exact⟨⟨p,es,cl,by rw[hJ];exact hp1,hp0,hh,NV (g:=g') (g':=tB g g' base W (qH upd)) rfl hp.1 hp.2 hM,hS⟩,fun bb oo ⟨pp,hpp,e⟩=>⟨pp,by rw[hJ] at hpp;exact hpp,e⟩⟩
  .cases hbn
 |cells t y ts=>
  have uI: ∀y2,bY base r.H.length W t y y2->yK (tB g g' base W (qH upd)) w' (base+c) (.cells t y2 (BP base r.H.length W 0 ts))/\∀bb oo,s6 (tB g g' base W (qH upd)) (base+c) (.cells t y2 (BP base r.H.length W 0 ts)) bb oo->s6 g' c (.cells t y ts) bb oo:=by
   intro y2 hbY;obtain⟨p,cs,hp1,hR1,h1,h2,h3,h4⟩:=hblk;refine⟨⟨p,cs,by rw[hJ];exact hp1,aAU hH hm hr hb hf hR1 hbY,h1,h2,h3,fun q kk hmem=>?_⟩,fun bb oo ⟨pp,hpp,e⟩=>⟨pp,by rw[hJ] at hpp;exact hpp,e⟩⟩;obtain⟨q',c',k1,k2,rfl⟩:=TJ hmem;rw[y9] at k2;obtain⟨u',l,vv,g1,g2,g3⟩:=h4 q' c' k1;exact⟨u',l,vv,by rw[aSu];exact aAV hbY g1,by rw[aSu];exact g2,by rw[(EB hH hm hr hb hf k2).2];exact g3⟩
  simp only[wY] at hbn;split at hbn
  .rename_i hp;simp only[aRV,aSp,true_and] at hbn;subst hbn;exact uI y (.inl ⟨hp,rfl⟩)
  obtain⟨y2,hy,hq⟩:=aAQ hbn;simp only[aSp,true_and] at hq;subst hq;exact uI y2 (.inr hy)
theorem Z5 {c k:Nat}{b0 b:qB}(hW:W[c]? =some (.tok k)) (hR:r.H[c]? =some b0) (hbk:vH k b0=some (k,b)):
  yK (tB g g' base W (qH upd)) w' k b/\∀bb oo,s6 (tB g g' base W (qH upd)) k b bb oo->s6 g' c b0 bb oo:=by
 obtain⟨hJ,hcur⟩:=aAS hH hm hr hb hf hW;have hblk:=hr.heap.blk c _ (by rw[wD];exact hR);cases b0 with
 |dead=>
  simp only[vH,aRV,aSp,true_and] at hbk;subst hbk;exact⟨trivial,fun _ _ h=>h.elim⟩
 |grow e m n=>
  simp only[vH,aRV,aSp,true_and] at hbk;subst hbk;obtain⟨u,xs,hv,h1,h2,h3⟩:=hblk;exact⟨⟨u,xs,by rw[hcur];exact hv,h1,fun m hm'=>by rw[hcur];exact h2 m hm',h3⟩,fun bb oo ⟨v',hv',hb'⟩=>⟨v',by rw[hcur] at hv';exact hv',hb'⟩⟩
 |row e t l n=>
  simp only[vH] at hbk;split at hbk
  .rename_i hp;simp only[aRV,aSp,true_and] at hbk;subst hbk;obtain⟨h0,u,xs,hv,h1,h4,h2,h3⟩:=hblk;exact⟨⟨h0,u,xs,by rw[hcur];exact hv,h1,AL (fun _ _ h=>uY (g:=g') (g':=tB g g' base W (qH upd)) rfl hp h) h4,fun m hm'=>by rw[hcur];exact h2 m hm',h3⟩,fun bb oo ⟨v',hv',hb'⟩=>⟨v',by rw[hcur] at hv';exact hv',hb'⟩⟩
  .cases hbk
 |iter s n=>simp [vH] at hbk
 |map s v l=>
  simp only[vH] at hbk;split at hbk
  .rename_i hp;rw[aSj] at hp;simp only[aRV,aSp,true_and] at hbk;subst hbk;obtain⟨p,es,cl,hp1,hp0,hh,hM,hS⟩:=hblk;exact⟨⟨p,es,cl,by rw[hJ];exact hp1,hp0,hh,NV (g:=g') (g':=tB g g' base W (qH upd)) rfl hp.1 hp.2 hM,hS⟩,fun bb oo ⟨pp,hpp,e⟩=>⟨pp,by rw[hJ] at hpp;exact hpp,e⟩⟩
  .cases hbk
 |cells t y ts=>simp [vH] at hbk
theorem aKc {side:List Prop}{s:qC}{rds:pS}{vv:pU}(hs:rN (tB g g' base W (qH upd)) w' s vv):rJ g w H ⟨side,s,upd,rds⟩ (tB g g' base W (qH upd)) w' vv:=by
 have le:=aAT hH hm hr hb hf;have fr:=aKb hH hm hr hb hf;have gho: ∀i,i∉qH upd->(tB g g' base W (qH upd)).J i=g.J i/\(tB g g' base W (qH upd)).cur i=g.cur i:=fun i hi=>
  aAR hH hm hr hb hf (fun h=>hi h.2) (TH fun c hc=>hi ((BY hH hm hr hb hf hc).1))
 have perm: ∀i blk b o,i∈qH upd->qE (qT upd H) i=some blk->s6 (tB g g' base W (qH upd)) i blk b o->w.heap.size<=b\/sI g H (qH upd) b o:=by
  intro i blk b o hi hg ho;rcases TK hH hm hr hb hf hi hg with⟨c,i',u,x,toks,off,b0,h1,h2,h3,h4⟩ |⟨c,k,b0,h1,h2,h3,h4⟩ |⟨c,b0,h1,h2,h3,h4⟩
  .subst h2;obtain⟨_,k2,_⟩:=Z3 hH hm hr hb hf h1 h3 h4;exact .inr ⟨i,_,hi,(k2 b o ho).2,(k2 b o ho).1⟩
  .subst h2;obtain⟨_,k2⟩:=Z5 hH hm hr hb hf h1 h3 h4;exact(hr.perm c b0 b o h3 (k2 b o ho)).imp id fun h=>Z2 hH hm hr hb hf h
  rw[aSu] at h2 h4;subst h2;obtain⟨_,k2⟩:=Z4 hH hm hr hb hf h3 h1 h4;exact(hr.perm c b0 b o h1 (k2 b o ho)).imp id fun h=>Z2 hH hm hr hb hf h
 refine⟨le,hs,hH.upd le fr perm gho (fun i blk hi hg=>?_) (fun i j bi bj b o hi hj hij hgi hgj hoi hoj=>?_) (fun b o h=>hr.heap.sl b o h),fr,perm,gho,fun i u' y us h=>?_⟩
 .rcases TK hH hm hr hb hf hi hg with⟨c,i',u,x,toks,off,b0,h1,h2,h3,h4⟩ |⟨c,k,b0,h1,h2,h3,h4⟩ |⟨c,b0,h1,h2,h3,h4⟩
  .subst h2;exact(Z3 hH hm hr hb hf h1 h3 h4).1
  .subst h2;exact(Z5 hH hm hr hb hf h1 h3 h4).1
  rw[aSu] at h2 h4;subst h2;exact(Z4 hH hm hr hb hf h3 h1 h4).1
 .have cls: ∀{i:Nat}{blk:qB},i∈qH upd->qE (qT upd H) i=some blk->s6 (tB g g' base W (qH upd)) i blk b o->
    (∃c u x toks off b0,W[c]? =some (.box i u x toks off)/\r.H[c]? =some b0/\s6 g i (.cells u x toks) b o/\qE H i=some (.cells u x toks)/\(s6 g' c b0 b o\/(b<w.heap.size/\¬x6 (uD g W) (qS 0 L) b o)))\/
    (∃c b0,xX base r.H.length c W[c]? =some i/\r.H[c]? =some b0/\s6 g' c b0 b o):=by
   intro i blk hi hg ho;rcases TK hH hm hr hb hf hi hg with⟨c,i',u,x,toks,off,b0,h1,h2,h3,h4⟩ |⟨c,k,b0,h1,h2,h3,h4⟩ |⟨c,b0,h1,h2,h3,h4⟩
   .subst h2;obtain⟨_,k2,k3⟩:=Z3 hH hm hr hb hf h1 h3 h4;exact .inl ⟨c,u,x,toks,off,b0,h1,h3,(k2 b o ho).1,(k2 b o ho).2,k3 b o ho⟩
   .subst h2;obtain⟨_,k2⟩:=Z5 hH hm hr hb hf h1 h3 h4;exact .inr ⟨c,b0,by rw[h1];rfl,h3,k2 b o ho⟩
   rw[aSu] at h2 h4;subst h2;obtain⟨_,k2⟩:=Z4 hH hm hr hb hf h3 h1 h4;exact .inr ⟨c,b0,by rw[h3];simp only[xX];rw[aRZ (aR7.1 h1).1],h1,k2 b o ho⟩
  have cross: ∀{c c':Nat}{b0 b1:qB},c≠c'->r.H[c]? =some b0->r.H[c']? =some b1->s6 g' c b0 b o->s6 g' c' b1 b o->False:=fun hne h1 h2 o1 o2=>
   hr.heap.dis _ _ _ _ b o hne (by rw[wD];exact h1) (by rw[wD];exact h2) o1 o2
  rcases cls hi hgi hoi with⟨c,u,x,toks,off,b0,h1,h2,h3,h4,h5⟩ |⟨c,b0,h1,h3,h4⟩<;>rcases cls hj hgj hoj with⟨c',u',x',toks',off',b0',k1,k2,k3,k4,k5⟩ |⟨c',b0',k1,k3,k4⟩
  .exact hH.dis i j _ _ b o hij h4 k4 h3 k3
  .rcases h5 with h5|⟨h5,h6⟩
   .exact cross (fun e=>by subst e;rw[h1] at k1;cases k1) h2 k3 h5 k4
   rcases hr.perm c' b0' b o k3 k4 with h|h
   .omega
   exact h6 h
  .rcases k5 with k5|⟨k5,k6⟩
   .exact cross (fun e=>by subst e;rw[k1] at h1;cases h1) h3 k2 h4 k5
   rcases hr.perm c b0 b o h3 h4 with h|h
   .omega
   exact k6 h
  exact cross (fun e=>by subst e;rw[h1] at k1;exact hij (aRY k1)) h3 k3 h4 k4
 by_cases hi:i∈qH upd
 .rcases TK hH hm hr hb hf hi h with⟨c,i',u,x,toks,off,b0,h1,h2,h3,h4⟩ |⟨c,k,b0,h1,h2,h3,h4⟩ |⟨c,b0,h1,h2,h3,h4⟩
  .subst h2;obtain⟨_,_,bL,hL,hok⟩:=BY hH hm hr hb hf h1;cases b0 with
   |cells t y0 ts=>
    obtain⟨y2,z,_,hset,hq⟩:=Z0 h4;simp only[aSp,qB.cells.injEq,true_and] at hq;obtain⟨rfl,_⟩:=hq;cases bL with
    |cells=>exact .inl ⟨x,toks,hok.1⟩
    |_=>exact hok.elim
   |grow=>simp [wO] at h4
   |row=>simp [wO] at h4
   |map=>simp [wO] at h4
   |iter=>simp [wO] at h4
   |dead=>simp [wO] at h4
  .cases b0 with
   |cells t y0 ts=>simp [vH] at h4
   |iter=>simp [vH] at h4
   |map=>simp only[vH] at h4;split at h4<;>simp at h4
   |row=>simp only[vH] at h4;split at h4<;>simp at h4
   |_=>simp [vH] at h4
  rw[aSu] at h2;exact .inr (hf i hi pI)
 exact .inl ⟨y,us,(yM hi).symm.trans h⟩
end
section
variable {P:Program}{g:Gh}{w:pT}
def aKd (P:Program) (g:Gh) (w:pT) (d:Nat) (ty:Ty) (x y:ty.den):XZ->Prop
 | .ty t=> ∀vx vy,sR g w ty x vx->sR g w ty y vy->∃b,AA ty x y=some b/\(Op.equalIn (d+1) t vx vy).run P w= .ok b w
 | .fs o l=> ∀px py cx cy,px.length=o->py.length=o->Rd g w ty x cx->Rd g w ty y cy->∃b,AA ty x y=some b/\(Op.eqFields (d+1) (px++cx).toArray (py++cy).toArray l).run P w= .ok b w
 | .el e i m=> ∀px py cx cy,px.length=i*P.cellsOf e->py.length=i*P.cellsOf e->Rd g w ty x cx->Rd g w ty y cy->∃b,AA ty x y=some b/\(Op.eqItems (d+1) e (P.cellsOf e) (px++cx).toArray (py++cy).toArray (List.range' i m)).run P w= .ok b w
theorem aKe {e:TypeId}{n:Nat}(h:(P.info? e).map (·.size)=some n):P.cellsOf e=n:=by
 obtain⟨i,h1,h2⟩:=aR8.1 h;simp [Program.cellsOf,h1,h2]
theorem xE.run {n:Nat}{ix:XZ}{ty:Ty}(h:xE P n ix ty): ∀(d:Nat),n<=d->∀x y:ty.den,aKd P g w d ty x y ix:=by
 induction h with
 |bool hu=>
  intro d _ x y vx vy hx hy;obtain rfl:=uJ hx;obtain rfl:=uJ hy;exact⟨_,rfl,run_equalIn_bool' w d _ _ _ hu⟩
 |int hu=>
  intro d _ x y vx vy hx hy;obtain rfl:=uZ hx;obtain rfl:=uZ hy;refine⟨_,rfl,(run_equalIn_int w d _ _ _ _ _ hu).trans ?_⟩;congr 1
 |str hu=>
  intro d _ x y vx vy hx hy;obtain rfl:=vM hx;obtain rfl:=vM hy;refine⟨_,rfl,(run_equalIn_string w d _ _ _ hu).trans ?_⟩;congr 1;rw[ByteArray.toList_eq,ByteArray.toList_eq];exact NZ _ _
 | @struct h0 t0 fs0 ty0 hr hu hs _ ih=>
  intro d hd x y vx vy hx hy;obtain⟨cx,rfl,rx⟩:=IP hr hx;obtain⟨cy,rfl,ry⟩:=IP hr hy;obtain⟨d,rfl⟩: ∃d',d=d'+1:=⟨d-1,pI⟩;obtain⟨b,h1,h2⟩:=ih d pI x y [] [] cx cy rfl rfl rx ry;refine⟨b,h1,?_⟩;have hf:P.fieldsOf t0=fs0:=by unfold Program.fieldsOf;rw[hu]
  rw[run_equalIn_struct w _ _ _ _ (by rw[hf];exact hu) hs,hf];simpa using h2
 |arr hr hu hi _ ih=>
  intro d hd x y vx vy hx hy;obtain⟨cx,rfl,rx⟩:=IP hr hx;obtain⟨cy,rfl,ry⟩:=IP hr hy;obtain⟨d,rfl⟩: ∃d',d=d'+1:=⟨d-1,pI⟩;obtain⟨b,h1,h2⟩:=ih d pI x y [] [] cx cy pK pK rx ry;refine⟨b,h1,?_⟩;obtain⟨i,hi⟩:=aRW.1 hi;rw[run_equalIn_array w _ _ _ hu hi,List.range_eq_range'];simpa using h2
 |nil=>
  intro d _ x y px py cx cy _ _ _ _;exact⟨true,rfl,by simp [Op.eqFields]⟩
 |anil=>
  intro d _ x y px py cx cy _ _ _ _;exact⟨true,rfl,by simp [Op.eqItems]⟩
 | @cons h o f r a b hn ho hsz hrow _ _ iha ihb=>
  intro d hd x y px py cx cy hpx hpy ⟨x1,x2,ex,rx1,rx2⟩ ⟨y1,y2,ey,ry1,ry2⟩;subst ex;subst ey;obtain⟨vx,p1,v1⟩:=O0 (P:=P) (c1:=px) (c3:=x2) hsz hrow rx1;obtain⟨vy,p2,v2⟩:=O0 (P:=P) (c1:=py) (c3:=y2) hsz hrow ry1;obtain⟨b1,e1,r1⟩:=iha d hd x.1 y.1 vx vy v1 v2;obtain⟨b2,e2,r2⟩:=ihb d hd x.2 y.2 (px++x1) (py++y1) x2 y2 (by rw[aRX,hpx,sJ rx1]) (by rw[aRX,hpy,sJ ry1]) rx2 ry2;refine⟨b1&&b2,by simp only[AA,e1,e2,AA.eqAnd],?_⟩;rw[aR9] at p1 p2 r2;rw[aR9] at r2;rw[hpx,<-ho] at p1;rw[hpy,<-ho] at p2;simp only[Op.eqFields,aRZ hn,aR6,p1,p2,aR0,r1];cases b1
  .simp
  .simpa using r2
 | @acons h e i m a b hsz hrow _ _ iha ihb=>
  intro d hd x y px py cx cy hpx hpy ⟨x1,x2,ex,rx1,rx2⟩ ⟨y1,y2,ey,ry1,ry2⟩;subst ex;subst ey;have hc:=aKe hsz;obtain⟨vx,p1,v1⟩:=O0 (P:=P) (c1:=px) (c3:=x2) hsz hrow rx1;obtain⟨vy,p2,v2⟩:=O0 (P:=P) (c1:=py) (c3:=y2) hsz hrow ry1;obtain⟨b1,e1,r1⟩:=iha d hd x.1 y.1 vx vy v1 v2;obtain⟨b2,e2,r2⟩:=ihb d hd x.2 y.2 (px++x1) (py++y1) x2 y2 (by rw[aRX,hpx,sJ rx1,hc,aSR]) (by rw[aRX,hpy,sJ ry1,hc,aSR]) rx2 ry2;refine⟨b1&&b2,by simp only[AA,e1,e2,AA.eqAnd],?_⟩;rw[aR9] at p1 p2 r2;rw[aR9] at r2;rw[hpx] at p1;rw[hpy] at p2;simp only[aTo,Op.eqItems,aR6,p1,p2,aR0,r1];cases b1
  .simp
  simpa using r2
def EC:pU->Bool
 | .nilFunc=>true
 |_=>false
theorem aKf {w:pT}(d:Nat) {t:TypeId}{a b:_}{c:_}(h:P.underlying t=some (.func a b c)) (v:pU) (hv:v= .nilFunc\/∃f y z,v= .func f y z):
  (Op.equalIn (d+1) t v .nilFunc).run P w= .ok (EC v) w:=by
 rcases hv with rfl|⟨f,y,z,rfl⟩<;>simp [Op.equalIn,aSg h,EC]
theorem aAY {w:pT}{t:TypeId}{a b:_}{c:_}(h:P.underlying t=some (.func a b c)) (v:pU) (hv:v= .nilFunc\/∃f y z,v= .func f y z):
  (Go.binOp .eql t v .nilFunc).run P w= .ok (.bool (EC v)) w/\(Go.binOp .neq t v .nilFunc).run P w= .ok (.bool (!(EC v))) w:=by
 have h1:=aKf (P:=P) (w:=w) 9999 h v hv;have h2:(Op.equal t v .nilFunc).run P w= .ok (EC v) w:=h1;rcases hv with rfl|⟨f,y,z,rfl⟩
 .exact⟨by simp only[Go.binOp,aR6,h2];rfl,by simp only[Go.binOp,aR6,h2];rfl⟩
 exact⟨by simp only[Go.binOp,aR6,h2];rfl,by simp only[Go.binOp,aR6,h2];rfl⟩
variable {o:Oper}{a:Act}{H:rZ}{T:sG}(hT:wA P T) (hH:sA g w H)
include hT hH
theorem aKg {op:BinOp}{xt yt:TypeId}{x y:Operand}(ho:o.op= .binOp op xt x y yt) {sx sy:qC}(hx:rN g w sx (a.eval x)) (hy:rN g w sy (a.eval y)) {e:qP}
  (hr:yU (W5 (rS T xt) op sx sy)=some e):rG P o a g w H e:=by
 obtain⟨q,hq,rfl⟩:=FY hr;have go: ∀{u v:pU},a.eval x=u->a.eval y=v->(∃z,(do eqGuard op xt x y u v;Go.binOp op xt u v:Sem pU).run P w= .ok z w/\xD g w q.2 z)->rG P o a g w H ⟨q.1,(q.2,none),[],[]⟩:=by
  rintro u v rfl rfl ⟨z,hz,hd⟩;refine rG.pure hH (v:=z) ?_ hd;unfold execOp;rw[ho];simp only[aR6,aSm] at hz|-;rw[hz];rfl
 replace hx:=hx.1;replace hy:=hy.1;generalize hti:rS T xt=oti at hq;unfold W5 at hq;split at hq
 .rename_i u el by' ar ls_ t l k k';have hd:=(sL hT hti).2;simp only[w9] at hd;obtain⟨ax,cx,ex,hle,hll⟩:=BU hx;have hnil:ax=none->l=[]:=fun h=>by
   rcases hll with h1|⟨b,o,h1,_⟩
   .exact h1
   rw[h] at h1;cases h1
  have ey:a.eval y= .slice none 0 0:=hy;refine go ex ey ?_;unfold QY at hq;split at hq
  .cases hq;have h1:(do eqGuard .eql xt x y (.slice ax (List.length l) cx) (.slice none 0 0);Go.binOp .eql xt (.slice ax (List.length l) cx) (.slice none 0 0):Sem pU).run P w= .ok (.bool ax.isNone) w:=by
    simp only[aR6];rw[show (eqGuard .eql xt x y (.slice ax (List.length l) cx) (.slice none 0 0)).run P w= .ok () w from by simp [eqGuard]];exact Lib.run_eql_slice_nil (P:=P) w xt _ ax (List.length l) cx 0 0 hd.1
   exact⟨_,h1,_,rfl,fun h=>hnil (by simpa using h),fun _=>trivial⟩
  .cases hq;have h1:(do eqGuard .neq xt x y (.slice ax (List.length l) cx) (.slice none 0 0);Go.binOp .neq xt (.slice ax (List.length l) cx) (.slice none 0 0):Sem pU).run P w= .ok (.bool (!ax.isNone)) w:=by
    simp only[aR6];rw[show (eqGuard .neq xt x y (.slice ax (List.length l) cx) (.slice none 0 0)).run P w= .ok () w from by simp [eqGuard]];exact run_neq_slice_nil_any (P:=P) w xt _ ax (List.length l) cx 0 0 hd.1
   exact⟨_,h1,_,rfl,fun _=>trivial,fun h=>hnil (by simpa using h)⟩
  cases hq
 .rename_i u el by' ar ls_ k t l k';have hd:=(sL hT hti).2;simp only[w9] at hd;obtain⟨ay,cy,ey,hle,hll⟩:=BU hy;have hnil:ay=none->l=[]:=fun h=>by
   rcases hll with h1|⟨b,o,h1,_⟩
   .exact h1
   rw[h] at h1;cases h1
  have ex:a.eval x= .slice none 0 0:=hx;refine go ex ey ?_;unfold QY at hq;split at hq
  .cases hq;have h1:(do eqGuard .eql xt x y (.slice none 0 0) (.slice ay (List.length l) cy);Go.binOp .eql xt (.slice none 0 0) (.slice ay (List.length l) cy):Sem pU).run P w= .ok (.bool ay.isNone) w:=by
    simp only[aR6];rw[show (eqGuard .eql xt x y (.slice none 0 0) (.slice ay (List.length l) cy)).run P w= .ok () w from by simp [eqGuard]];exact run_eql_nil_slice (P:=P) w xt _ ay (List.length l) cy 0 0 hd.1
   exact⟨_,h1,_,rfl,fun h=>hnil (by simpa using h),fun _=>trivial⟩
  .cases hq;have h1:(do eqGuard .neq xt x y (.slice none 0 0) (.slice ay (List.length l) cy);Go.binOp .neq xt (.slice none 0 0) (.slice ay (List.length l) cy):Sem pU).run P w= .ok (.bool (!ay.isNone)) w:=by
    simp only[aR6];rw[show (eqGuard .neq xt x y (.slice none 0 0) (.slice ay (List.length l) cy)).run P w= .ok () w from by simp [eqGuard]];exact run_neq_nil_slice (P:=P) w xt _ ay (List.length l) cy 0 0 hd.1
   exact⟨_,h1,_,rfl,fun _=>trivial,fun h=>hnil (by simpa using h)⟩
  cases hq
 .rename_i el by' ar ls_ x' k1 k2;have hd:=(sL hT hti).2;simp only[w9] at hd;obtain⟨fa,fb,fc,hd⟩:=hd.1;have ey:a.eval y= .nilFunc:=by
   have:=wB rfl hy;simpa[Rd,FV] using this
  obtain⟨hf,hm⟩:(a.eval x= .nilFunc\/∃f y z,a.eval x= .func f y z)/\EC (a.eval x)=decide (x'.1=0):=by
   obtain⟨c,i,⟨k3,n3⟩,⟨k4,n4⟩⟩:=x';rcases wB rfl hx with⟨h0,e⟩ |⟨h0,b,α,e,_⟩
   .simp only[aSy,and_true] at e;rw[e];exact⟨.inl rfl,by simp [h0,EC]⟩
   simp only[aSy,and_true] at e;rw[e];exact⟨.inr ⟨_,_,_,rfl⟩,by simp [h0,EC]⟩
  have hr2:=aAY (P:=P) (w:=w) hd (a.eval x) hf;rw[hm] at hr2;refine go rfl ey ?_;have hgd: ∀op,(eqGuard op xt x y (a.eval x) .nilFunc).run P w= .ok () w:=fun op=>by
   rcases hf with e|⟨f,x1,x2,e⟩<;>rw[e]<;>cases op<;>simp [eqGuard]
  unfold KP at hq;split at hq
  .rename_i r e1;cases e1;cases hq;exact⟨_,by simp only[aR6,hgd,aR0];exact hr2.1,uK _ _ _⟩
  .rename_i r e1;cases e1;cases hq;exact⟨_,by simp only[aR6,hgd,aR0];exact hr2.2,uK _ _ _⟩
  cases hq
 .rename_i el by' ar ls_ x' k1 k2;have hd:=(sL hT hti).2;simp only[w9] at hd;obtain⟨fa,fb,fc,hd⟩:=hd;have ey:a.eval y= .nilFunc:=by
   have:=wB rfl hy;simpa[Rd,FV] using this
  obtain⟨hf,hm⟩:(a.eval x= .nilFunc\/∃f y z,a.eval x= .func f y z)/\EC (a.eval x)=MY x':=by
   have e:=wB rfl hx;cases x' with
   |none=>
    simp only[Rd,SQ,aSy,and_true] at e;rw[e];exact⟨.inl rfl,rfl⟩
   |some f=>
    simp only[Rd,SQ,aSy,and_true] at e;rw[e];exact⟨.inr ⟨_,_,_,rfl⟩,rfl⟩
  have hr2:=aAY (P:=P) (w:=w) hd (a.eval x) hf;rw[hm] at hr2;refine go rfl ey ?_;have hgd: ∀op,(eqGuard op xt x y (a.eval x) .nilFunc).run P w= .ok () w:=fun op=>by
   rcases hf with e|⟨f,x1,x2,e⟩<;>rw[e]<;>cases op<;>simp [eqGuard]
  unfold KP at hq;split at hq
  .rename_i r e1;cases e1;cases hq;exact⟨_,by simp only[aR6,hgd,aR0];exact hr2.1,uK _ _ _⟩
  .rename_i r e1;cases e1;cases hq;exact⟨_,by simp only[aR6,hgd,aR0];exact hr2.2,uK _ _ _⟩
  cases hq
 .rename_i u el b ar ls_ t x' k t' y' k' _ _;unfold a80 at hq;split at hq
  .rename_i htt;subst htt;split at hq
   .rename_i hc;obtain⟨rfl,hc⟩:=hc;simp only[tJ] at hq;obtain⟨r,hr1,hr2⟩: ∃r,AA t' x' y'=some r/\((op= .eql/\q=([],.val .bool r))\/(op= .neq/\q=([],.val .bool (!r)))):=by
     generalize hgen:AA t' x' y'=od at hq;unfold KP at hq;split at hq
     .rename_i r;cases hq;exact⟨r,rfl,.inl ⟨rfl,rfl⟩⟩
     .rename_i r;cases hq;exact⟨r,rfl,.inr ⟨rfl,rfl⟩⟩
     cases hq
    have hti':=sL hT hti;rcases hc with rfl|⟨hrow,rfl⟩
    .have hd:=hti'.2;simp only[w9] at hd;obtain hbx:=uJ hx;obtain hby:=uJ hy;refine go hbx hby ?_;have hrr:r=(x'==y'):=(aRY hr1).symm;subst hrr;have hrun:=run_equalIn_bool' (P:=P) w 9999 xt x' y' hd;rcases hr2 with⟨rfl,rfl⟩ |⟨rfl,rfl⟩
     .refine⟨.bool (x'==y'),?_,uK _ _ _⟩;simp only[aR6];rw[show (eqGuard .eql xt x y (.bool x') (.bool y')).run P w= .ok () w from by simp [eqGuard]];simp only[aR0,Go.binOp,Op.equal,Op.maxDepth,aR6,hrun,aSm]
     refine⟨.bool (!(x'==y')),?_,uK _ _ _⟩;simp only[aR6];rw[show (eqGuard .neq xt x y (.bool x') (.bool y')).run P w= .ok () w from by simp [eqGuard]];simp only[aR0,Go.binOp,Op.equal,Op.maxDepth,aR6,hrun,aSm]
    have h2:=hti'.2;have heq:P.eqGuardType P.depth xt=false/\∃h,h<9000/\xE P h (.ty xt) t':=by
     unfold w9 at h2;cases t'<;>simp only[Ty.isRow,aTq] at hrow
     all_goals exact h2.2 rfl
    obtain⟨hg1,hh,hlt,hE⟩:=heq;obtain⟨cx,ex,rx⟩:=IP hrow hx;obtain⟨cy,ey,ry⟩:=IP hrow hy;obtain⟨b',hb1,hb2⟩:=hE.run (g:=g) (w:=w) 9999 pI x' y' _ _ hx hy;rw[hr1] at hb1;obtain rfl:=aRY hb1;rw[ex,ey] at hb2;refine go ex ey ?_;rcases hr2 with⟨rfl,rfl⟩ |⟨rfl,rfl⟩
    .refine⟨.bool r,?_,uK _ _ _⟩;simp only[aR6];rw[run_eqGuard_agg w _ _ _ _ _ _ hg1];simp only[aR0];rw[run_eql_struct,hb2];rfl
    refine⟨.bool (!r),?_,uK _ _ _⟩;simp only[aR6];rw[run_eqGuard_agg w _ _ _ _ _ _ hg1];simp only[aR0];rw[run_neq_struct,hb2];rfl
   cases hq
  cases hq
 cases hq
end
end Go.Proofs.YtcpbaddnmpeipaaGreatDoor.Vc
namespace Go.Proofs.YtcpbaddnmpeipaaGreatDoor.Vc
open Go.RowKit
theorem aKh (s:pE):Lib.strCells ⟨s.toArray⟩=s.map fun b=>Value.int .u8 b.toNat:=by
 simp [Lib.strCells]
theorem aKi {P:Program}(w:pT) (t u ty e:TypeId) (i:TypeInfo) (ht:P.underlying t=some (.slice e)) (hu:P.underlying u=some .string) (hi:P.info? e=some i) (hz:i.zero=some (.int .u8 0))
  (hsize:i.size=1) (hby:i.bytes=1) (v:pU) (n:Nat) (xs:pP) (hown:w.ownsRow 0 e 1 v n xs) (s:ByteArray) (hm:0<s.size)
  (h63:n+s.size<=maxLen) (hbytes:n+s.size<=140737488355328):
  ∃q cap w',(Builtin.append_ #[t,u] ty #[v,.string s]).run P w= .ok (.slice (some ⟨q,0,none⟩) (n+s.size) cap) w'/\w'.ownsRow 0 e 1 (.slice (some ⟨q,0,none⟩) (n+s.size) cap) (n+s.size) (xs++Lib.strCells s)/\
   (q=w.heap.size\/v.ownBlock=some q)/\w.grownBy w' v.ownBlock/\n+s.size<=cap/\
   ∀b o,b<w.heap.size->(v.ownBlock=some b->o<n*1)->w'.cell? ⟨b,o,none⟩=w.cell? ⟨b,o,none⟩:=by
 have hsmall:n+s.size<=9223372036854775807:=by simp only[maxLen] at h63;omega
 have hxl:xs.length=n:=by simpa using hown.1
 have hlen:(xs++Lib.strCells s).length=(n+s.size)*1:=by rw[aRX,hxl,Lib.strCells_length,aTu]
 have grown: ∀(old:Nat),old<n+s.size->∀(row:pR),
   (w.drew.alloc (.cells (xs.toArray++(Lib.strCells s).toArray++Builtin.zeroCells (Value.int .u8 0).cells (grownCap w (n+s.size) old e- (n+s.size))) e)).ownsRow 0 e 1
    (.slice (some ⟨w.heap.size,0,none⟩) (n+s.size) (grownCap w (n+s.size) old e)) (n+s.size) (xs++Lib.strCells s)/\
   w.grownBy (w.drew.alloc (.cells (xs.toArray++(Lib.strCells s).toArray++Builtin.zeroCells (Value.int .u8 0).cells (grownCap w (n+s.size) old e- (n+s.size))) e)) row/\n+s.size<=grownCap w (n+s.size) old e/\
   ∀b o,b<w.heap.size->(w.drew.alloc (.cells (xs.toArray++(Lib.strCells s).toArray++Builtin.zeroCells (Value.int .u8 0).cells (grownCap w (n+s.size) old e- (n+s.size))) e)).cell? ⟨b,o,none⟩=w.cell? ⟨b,o,none⟩:=by
  intro old ho row;have hge:=grownCap_ge w (n+s.size) old e;have hcm:grownCap w (n+s.size) old e<=maxLen:=grownCap_le_maxLen w (n+s.size) old e h63;refine⟨⟨hlen,.inr ⟨w.heap.size,_,_,rfl,aS3 _,aTO w.drew _,hge,hcm,?_,?_⟩⟩,⟨rfl,rfl,rfl,by simp,fun k hk _=>aSr w.drew _ k hk⟩,hge,fun b o hb=>aSh (w:=w) (a:=⟨b,o,none⟩) (aSr w.drew _ b hb)⟩
  .have hz1:(Value.int IntKind.u8 0).cells.size=1:=rfl;simp only[aTQ,aSI,size_zeroCells,hz1,hxl,Lib.strCells_length];omega
  simp only[Array.toList_append,aR9];rw[<-aR9,<-hlen];exact aTp
 rcases hown.2 with⟨rfl,rfl⟩ |⟨g,cap,cur,rfl,hbg,hg,hnc,hcm,hcs,htake⟩
 .have hx:xs=[]:=aSq hxl;subst hx;have hr:=run_append_nil_string (P:=P) w t u ty e i (.int .u8 0) ht hu hi hz s pI pI (by rw[hby];omega);have hgr:=grown 0 pI (Value.ownBlock (.slice none 0 0));simp only[aSu,List.nil_append,Array.empty_append] at hgr|-;have e1:(s.data.map fun b=>Value.int .u8 b.toNat)=(Lib.strCells s).toArray:=by
   apply Array.ext';simp [Lib.strCells]
  rw[e1] at hr;exact⟨_,_,_,hr,hgr.1,.inl rfl,hgr.2.1,hgr.2.2.1,fun b o hb _=>hgr.2.2.2 b o hb⟩
 by_cases hroom:n+s.size<=cap
 .have hcs':cur.size=cap:=by simpa using hcs
  have hr:=Lib.run_append_room_string (P:=P) w t u ty e i ht hu hi hsize g n cap cur hg s hroom pI;refine⟨_,_,_,hr,⟨hlen,.inr ⟨g,cap,_,rfl,hbg,aTS w g cur _ e _ hg,hroom,hcm,?_,?_⟩⟩,.inr rfl,⟨rfl,rfl,rfl,by simp,fun k _ hk=>aTs w g k _ (fun e=>hk (by simp [Value.ownBlock,e]))⟩,hroom,fun b o hb hso=>?_⟩
  .simp only[aSI,aRX,aSN,aS1,aSF,Lib.strCells_length];omega
  .have ht':cur.toList.take n=xs:=by simpa using htake
   rw[ht',<-hlen];exact aTp
  by_cases hbg':b=g
  .subst hbg';have ho:=hso rfl;rw[cell_setRow_same w b o cur _ e _ hg,cell_of_row w b o cur e (0,0) hg];have hlt:o<(cur.toList.take n).length:=by rw[aSN,aSF];omega
   have hlt2:o<cur.size:=by rw[aSN,aSF] at hlt;omega
   simp only[List.getElem?_toArray,aR9];rw[aSc hlt,List.getElem?_take,aRZ pI];simp
  exact aSh (a:=⟨b,o,none⟩) (aTs w g b _ hbg')
 have holds: ∀j u,xs[j]? =some u->w.cell? ((⟨g,0,none⟩:Addr).add j)=some u:=hown.cells (g:=g) rfl;have hr:=Lib.run_append_grow_string (P:=P) w t u ty e i (.int .u8 0) ht hu hi hz ⟨g,0,none⟩ n cap xs (by rw[hsize];simpa using hxl) holds s pI pI (by rw[hby];exact growslice_fits pI pI);have hgr:=grown cap pI (Value.ownBlock (.slice (some ⟨g,0,none⟩) n cap));exact⟨_,_,_,hr,hgr.1,.inl rfl,hgr.2.1,hgr.2.2.1,fun b o hb _=>hgr.2.2.2 b o hb⟩
theorem aKj {P:Program}(w:pT) (t u ty e:TypeId) (i:TypeInfo) (ht:P.underlying t=some (.slice e)) (hu:P.underlying u=some .string) (hi:P.info? e=some i) (hsize:i.size=1) (ad:Option Addr) (n c:Nat) (hle:n<=c):
  (Builtin.append_ #[t,u] ty #[.slice ad n c,.string ⟨#[]⟩]).run P w= .ok (.slice ad n c) w:=by
 have hf:=Lib.run_firstCells_string (P:=P) w 1 ⟨#[]⟩;have hm:(⟨#[]⟩:ByteArray).size=0:=rfl;rw[hm] at hf;cases ad<;>simp [Builtin.append_,aSg ht,aSg hu,sizeOf,typeInfo,hi,hsize,Builtin.lenOf,hm,hf,hle,Lib.strCells,storeCells]
theorem aAZ (g:Gh) (w:pT): ∀s:pE,tG (Rd g w (.int .u8)) 1 (tX s) (s.map fun b=>Value.int .u8 b.toNat)
 |[]=>rfl
 |b::s=>⟨[.int .u8 b.toNat],_,rfl,rfl,rfl,aAZ g w s⟩
section
variable {P:Program}{o:Oper}{a:Act}{g:Gh}{w:pT}{H:rZ}{T:sG}(hT:wA P T) (hH:sA g w H)
include hT hH
theorem aKk {t t':TypeId}{x:Operand}(ho:o.op= .convert t t' x) {sx:qC}(hx:rN g w sx (a.eval x)) {e:qP}
  (hr:yU (W8 T (rS T t) (rS T t') sx)=some e):rG P o a g w H e:=by
 obtain⟨q,hq,rfl⟩:=FY hr;replace hx:=hx.1;generalize h1:rS T t=o1 at hq;generalize h2:rS T t'=o2 at hq;unfold W8 at hq;split at hq
 .rename_i e b1 a1 l1 e2 b2 a2 l2 l k;generalize h3:rS T e=o3 at hq;unfold a81 at hq;split at hq
  .cases hq;have d1:=(sL hT h1).2;have d2:=(sL hT h2).2;have d3:=(sL hT h3).2;simp only[w9] at d1 d2 d3;obtain⟨ad,cap,hv,hle,hl⟩:=BU hx;refine rG.pure hH (v:= .string ⟨(sV l).toArray⟩) ?_ (AN _ _ _);simp only[execOp,ho,hv,aR6];have run:(convert t t' (.slice ad (List.length l) cap)).run P w= .ok (.string ⟨(sV l).toArray⟩) w:=by
    rcases hl with rfl|⟨b,off,rfl,hL⟩
    .rw[run_convert_bytes_string w t t' e ad _ cap d1.1 d3 d2];cases ad with
     |none=>simp [Conv.bytesToString,sV];rfl
     |some ad=>simp [Conv.bytesToString,loadCells,loadCellsFrom,sV];rfl
    have:=run_convert_bytes_arg (P:=P) w t e d1.1 d3 b off (List.length l) cap l rfl (fun i hi=>by
     obtain⟨cs,_,c2,_,c4⟩:=IQ hL (aR3 hi);have c5:cs=[.int .u8 (l[i]:Int)]:=c4;subst c5;have:=c2 0 _ rfl;have hcell:Ty.cells (.int .u8)=1:=rfl;rw[hcell,aTu,aSM] at this;rw[this,aSo,aR3 hi];rfl) t' d2
    exact this
   rw[run];rfl
  cases hq
 cases hq
theorem aKl {args:Array Operand}{tys:Array TypeId}(ho:o.op= .call ⟨.builtin .append,args,tys⟩) {ρ:Operand->qC}(hρ: ∀x∈args.toList,rN g w (ρ x) (a.eval x)) {e:qP}
  (hr:S9 T H (uO ρ args.toList) tys.toList=some e) (hs: ∀p∈e.side,p):rG P o a g w H e:=by
 unfold S9 at hr;split at hr
 .rename_i t u htu;have htys:tys= #[t,u]:=by apply aSO.1;rw[htu]
  split at hr
  .rename_i e1;subst e1;exact aJE hT hH ho hρ htys hr hs
  clear htu;subst htys;generalize hst:rS T t=ot at hr;generalize hsu:rS T u=ou at hr;generalize hss:uO ρ args.toList=ss at hr;unfold XD at hr;split at hr
  .rename_i el ar ls_ e2 b2 a2 ls2 l k s k2;generalize hk:qE H k=ob at hr;unfold S8 at hr;split at hr
   .rename_i e' c n;split at hr
    .rename_i hec;obtain⟨rfl,rfl⟩:=hec;cases hr;rw[aRX];have hsl:List.length (tX s)=List.length s:=by simp [tX]
     rw[hsl];have hln:=hs _ (by simp:(List.length l=n)∈_);have hby:=hs _ (by simp:(List.length l+List.length s<=140737488355328)∈_);obtain⟨v,vr,hv,hs1,hs2⟩:=SW hT hH hρ hss;obtain⟨h2,h3,_⟩:=(sL hT hst).2;have hu:=(sL hT hsu).2;simp only[w9] at hu;obtain⟨ei,hei,hz⟩:=aR8.1 h3;simp only[aSp] at hz;obtain⟨cs,hx⟩:=E8 (a:=a) hT hH ho;obtain⟨v0,xs,hv0,hown,hnone,hseal⟩:=hH.blk k _ hk;have hcur:g.cur k (List.length l)=some v:=hs1.2;rw[hln,hv0] at hcur;obtain rfl:=aRY hcur;obtain⟨adl,capl,hvl,hlel,hll⟩:=BU hs1.1;have hvr:=vM hs2.1;have hsz:(⟨List.toArray s⟩:ByteArray).size=List.length s:=by simp [ByteArray.size]
     by_cases hm:List.length s=0
     .obtain rfl:s=[]:=aSq hm;have hget: ∀i,qE (qT [(k,qB.grow e' 1 (List.length l+List.length ([]:pE)))] H) i=qE H i:=by
       intro i;simp only[qT,qE];by_cases hi:k=i
       .subst hi;rw[aRZ rfl,hk,hln];rfl
       rw[aR4 hi]
      have hkeep:rJ g w H ⟨[List.length l=n,List.length l+List.length ([]:pE)<=140737488355328],(.val (.list (.int .u8)) (l++tX []),some k),[(k,.grow e' 1 (List.length l+List.length ([]:pE)))],[k]⟩ g w v0:=by
       refine⟨.refl _ _,?_,⟨fun i b h=>hH.blk i b ((hget i).symm.trans h),fun i j bi bj b o' hij h1 h2=>hH.dis i j bi bj b o' hij ((hget i).symm.trans h1) ((hget j).symm.trans h2),hH.sl,hH.tab.1,fun i blk b o' h ho'=>hH.tab.2 i blk b o' ((hget i).symm.trans h) ho'⟩,.refl _ _ _,fun i blk b o' hi hg ho'=> .inr ⟨i,blk,hi,(hget i).symm.trans hg,ho'⟩,fun _ _=>⟨rfl,rfl⟩,fun i u' y us h=> .inl ⟨y,us,(hget i).symm.trans h⟩⟩;rw[show l++tX []=l from by simp [tX]];exact hs1
      refine rG.value (v:=v0) (w':=w) ?_ hkeep;rw[hx,hv,hvr,hvl];have:=aKj (P:=P) w t u o.type e' ei h2 hu hei (by rw[hz.1];rfl) adl (List.length l) capl hlel;simp only[builtin,aR6];rw[this];simp only[aR0,aSm]
     have hxs:tG (Rd g w (.int .u8)) 1 l xs:=by
      by_cases h0:List.length l=0
      .obtain rfl:l=[]:=aSq h0;have:xs=[]:=aSq (by rw[hown.1,<-hln];simp);exact this
      rcases hll with rfl|⟨b0,off0,rfl,hL0⟩
      .exact absurd rfl h0
      obtain⟨ls,hF0,hra0,_⟩:=O1 hL0;rcases hown.2 with⟨e1,e2⟩ |⟨q,cap,cur,e1,e2⟩
      .exact absurd (hln.trans e2) h0
      rw[hvl] at e1;simp only[aTk,aRV,Addr.mk.injEq] at e1;obtain⟨⟨rfl,rfl,_⟩,_,rfl⟩:=e1;have hvn:v0= .slice (some ⟨b0,0,none⟩) n capl:=by rw[hvl,hln]
      have hrx:=YD (hvn▸hown);have:ls=xs:=by
       have hl1:=IJ hF0;have hl2:=hown.1;have hc1:Ty.cells (.int .u8)=1:=rfl;rw[hc1] at hl1;apply List.ext_getElem?;intro j;by_cases hj:j<ls.length
       .have h1:=hra0 j ls[j] (aR3 hj);have hj':j<xs.length:=by rw[hl2,<-hln,<-hl1];exact hj
        have h2:=hrx j xs[j] (aR3 hj');rw[h1] at h2;rw[aR3 hj,aR3 hj',aRY h2]
       rw[aS6 pI,aS6 (by rw[hl2,<-hln,<-hl1];omega)]
      rw[<-this];exact hF0
     obtain⟨q,cap,w',hrun,hown',hq,hg,hcap,hcell⟩:=aKi (P:=P) w t u o.type e' ei h2 hu hei hz.2.2 hz.1 hz.2.1 v0 n xs hown ⟨List.toArray s⟩ (by rw[hsz];omega) (by rw[hsz];unfold maxLen;omega) (by rw[hsz];omega);rw[hsz] at hrun hown' hcap;rw[aKh] at hown';refine rG.value (v:= .slice (some ⟨q,0,none⟩) (n+List.length s) cap) (w':=w') ?_ (by
      have:=rJ.append (side:=[List.length l=n,List.length l+List.length s<=140737488355328]) (rds:=[k]) (u:= .int .u8) (r:=tX s) hH hk (show (1:Nat)=Ty.cells (.int .u8) from rfl) hln hv0 hown hnone hseal hxs (aAZ g w s) (by rw[hsl];omega) (by rw[hsl];exact hown') hq hg (by rw[hsl];exact hcap) hcell;rw[hsl] at this;rw[hln];rw[hln] at this;exact this)
     rw[hx,hv,hvr];simp only[builtin,aR6,hrun,aR0,aSm]
    cases hr
   cases hr
  cases hr
 cases hr
end
theorem aKm {g g':Gh}{w:pT}{f:qC→qC}(hf: ∀s u,rN g w s u→rN g' w (f s) u): ∀{l:List qC}{v:pU}{s:qC},O4 g w l v→KU (l.map f)=some s→rN g' w s v:=by
  have un: ∀{l:List qC}{vs:pP}{q},uB g w l vs→DQ (l.map f)=some q→FW g' w q vs:=by
    intro l
    induction l with
    | nil=>
      intro vs q h hq;simp only[List.map_nil,DQ,aRV] at hq;subst hq;exact h
    | cons s l ih=>
      rintro vs q ⟨v,vs',rfl,h1,h2⟩ hq;have h1':=hf s v h1;simp only[aS0] at hq;generalize f s=fs at hq h1';obtain⟨d,k⟩:=fs;cases d with
      | val t x=>
        simp only[DQ] at hq;obtain⟨q',hq',rfl⟩:=aR8.1 hq;refine⟨v,vs',rfl,h1'.1,?_,ih h2 hq'⟩;cases k with
        |none=>trivial
        |some k=>exact h1'.2
      | own k' n=>
        simp only[DQ] at hq;obtain⟨q',hq',rfl⟩:=aR8.1 hq;exact⟨v,vs',rfl,.inr ⟨rfl,v,h1'.1.1,rfl,h1'.1.2⟩,trivial,ih h2 hq'⟩
      |_=>simp [DQ] at hq
  intro l v s h hs
  match l,h,hs with
  | [],⟨vs,e,h⟩,hs=>
    simp only[List.map_nil,KU,aRV] at hs;subst hs;rw[show vs=[] from h] at e;exact⟨⟨[],e,rfl⟩,trivial⟩
  | [x],h,hs=>
    simp only[aS0,List.map_nil,KU,aRV] at hs;subst hs;exact hf x v h
  | x::y::l,⟨vs,e,h⟩,hs=>
    simp only[aS0,KU,aRV] at hs;subst hs;cases hq:DQ (f x::f y::l.map f) with
    |none=>exact⟨trivial,trivial⟩
    |some q=>exact⟨⟨vs,e,un (l:=x::y::l) h (by simpa using hq)⟩,trivial⟩
theorem aA0 {base n:Nat}{W:List rQ}: ∀l:List qC,N4 base n W l=l.map (R7 base n W)
  |[]=>rfl
  |s::l=>by simp [N4,aA0 l]
theorem aA1 {P:Program}{f:FuncId}{sg:r7}(hcon:vN P f sg.C) {g:Gh}{w:pT}{H:rZ}(hH:sA g w H) {args:List qC}{vals:pP}(hargs:uB g w args vals) {base:Nat}{e:qP}
    (hr:DR H base args (some sg)=some e) (hs: ∀p∈e.side,p) (hfr:wT g base e):Calls P f vals.toArray w (fun en w'=> ∃v g',en= .returned v∧rJ g w H e g' w' v):=by
  simp only[DR] at hr;cases hp0:wN H sg.ps args (some ⟨[],[],[],0⟩) with
  |none=>rw[hp0] at hr;cases hgs:sg.gs<;>(rw[hgs] at hr;simp [N5,zT] at hr)
  |some q0=>
   rw[hp0] at hr;cases hp:zT H sg.gs (some q0) with
   |none=>rw[hp] at hr;simp [N5] at hr
   |some q=>
    rw[hp] at hr;simp only[N5,aAP,List.append_nil] at hr;have hpo0:=aAK hH (A4.nil g w H) hargs hp0;rw[List.nil_append] at hpo0;have hpo:=aAM hH hpo0 hp;cases hcl:FK q.ws.reverse q.H.reverse with
    |none=>rw[hcl] at hr;simp [RA] at hr
    |some L=>
    rw[hcl] at hr;simp only[RA] at hr;have hm:=hpo.m.ren hcl;cases hc:sg.C q.args.reverse L with
    |none=>rw[hc] at hr;simp [R9] at hr
    | some r=>
      rw[hc] at hr;simp only[R9,aAO] at hr;cases hbh:zV base r.H.length q.ws.reverse 0 q.ws.reverse r.H with
      |none=>rw[hbh] at hr;simp [N3] at hr
      | some upd=>
        rw[hbh] at hr;cases hrs:KU (N4 base r.H.length q.ws.reverse r.ret) with
        |none=>rw[hrs] at hr;simp [N3] at hr
        | some s=>
          rw[hrs] at hr;simp only[N3,aRV] at hr;subst hr;refine(hcon.2 (uD g q.ws.reverse) w q.args.reverse _ L r (aJW hH hm) hpo.args hc hs).mono ?_;rintro en w' ⟨v,g',rfl,hret⟩;refine⟨v,_,rfl,aKc hH hm hret hbh hfr ?_⟩;rw[aA0] at hrs;exact aKm (fun s u h=>aKa hH hm hret hbh hfr h) hret.ret hrs
theorem IW {g g':Gh}{w w':pT}: ∀{t:Ty}{x:t.den}{cs:pP},DS t=true→Rd g w t x cs→Rd g' w' t x cs
  | .bool,_,_,_,r=>r
  | .int _,_,_,_,r=>r
  | .str,_,_,_,r=>r
  | .unit,_,_,_,r=>r
  | .fn,_,_,_,r=>r
  | .pair a b,_,_,h,⟨c1,c2,e,r1,r2⟩=>by
    simp only[DS,aSj] at h;exact⟨c1,c2,e,IW h.1 r1,IW h.2 r2⟩
  | .list _,_,_,h,_=>by cases h
  | .ref,_,_,h,_=>by cases h
  | .clo,_,_,h,_=>by cases h
  | .mp,_,_,h,_=>by cases h
  | .rl _ _,_,_,h,_=>by cases h
  | .mref,_,_,h,_=>by cases h
  | .ap,_,_,h,_=>by cases h
theorem aA2 {g g':Gh}{w:pT}{k n:Nat}{t:Ty}{l:List t.den}(le:Le g w g' w) (hk: ∀u,g.cur k n=some u→((u= .slice none 0 0∧n=0)∨∃b cap,u= .slice (some ⟨b,0,none⟩) n cap∧n≤cap)→sR g' w (.list t) l u):
    ∀{args:List qC}{vals:pP},uB g w args vals→(∀p∈I0 k n args,p)→uB g' w (N7 k t l args) vals
  |[],_,h,_=>h
  | s::ss,_,⟨v,vs,rfl,h1,h2⟩,hp=>by
    refine⟨v,vs,rfl,?_,aA2 le hk h2 (fun p hp'=>hp p ?_)⟩
    · obtain⟨d,x⟩:=s
      cases d with
      | own j m=>
        simp only[a9c];split
        · rename_i e
          subst e;have hm:m=n:=hp (j=j→m=n) (by simp only[I0];exact aSf) rfl;subst hm;exact⟨hk _ h1.1.1 h1.1.2,trivial⟩
        .exact BB le h1
      |_=>exact BB le h1
    obtain⟨d,x⟩:=s
    cases d with
    |own j m=>simp only[I0];exact aSb _ hp'
    |_=>exact hp'
theorem aA3 {g g':Gh}{w w':pT}: ∀{l:List ((Σ t:Ty,t.den)×pR)}{vs:pP},RB l=true→FW g w l vs→FW g' w' (WC l) vs
  |[],_,_,h=>h
  | (⟨t,x⟩,k)::l,vs,hn,⟨v,vs',e,h1,h2,h3⟩=>by
    simp only[RB,aSj] at hn;exact⟨v,vs',e,h1.imp (fun⟨a,cs,e,q⟩=>⟨a,cs,e,IW hn.1 q⟩) (fun⟨a,q⟩=>⟨a,IW hn.1 q⟩),trivial,aA3 hn.2 h3⟩
theorem aKn {g g':Gh}{w w':pT}{s s':qC}{v:pU}(h:RC s=some s') (hr:rN g w s v):rN g' w' s' v:=by
  unfold RC at h;split at h
  · split at h
    · rename_i hn
      cases h;exact⟨hr.1.imp (fun⟨a,cs,e,q⟩=>⟨a,cs,e,IW hn q⟩) (fun⟨a,q⟩=>⟨a,IW hn q⟩),trivial⟩
    cases h
  · split at h
    · rename_i hn
      cases h;obtain⟨vs,e,q⟩:=hr.1;exact⟨⟨vs,e,aA3 hn q⟩,trivial⟩
    cases h
  cases h
theorem aKo {P:Program}{f:FuncId}{sg:r7}(hcon:vN P f sg.C) {g:Gh}{w:pT}{H:rZ}(hH:sA g w H) {args:List qC}{vals:pP}(hargs:uB g w args vals) {base:Nat}{e:qP}{k:Nat}
    (hr:N8 H base args sg k (qE H k)=some e) (hs: ∀p∈e.side,p) (hfr:wT g base e):Calls P f vals.toArray w (fun en w'=> ∃v g',en= .returned v∧rJ g w H e g' w' v):=by
  cases hk:qE H k with
  |none=>rw[hk] at hr;cases hr
  | some b=>
    rw[hk] at hr;cases b with
    | row e0 t l m=>
      simp only[N8] at hr;cases hi:DR ((k,.dead)::H) base (N7 k t l args) (some sg) with
      |none=>rw[hi] at hr;cases hr
      | some e1=>
        rw[hi] at hr;obtain⟨side,s0,U,rds⟩:=e1;simp only[WE] at hr;cases hsl:RC s0 with
        |none=>rw[hsl] at hr;cases hr
        | some s1=>
          rw[hsl] at hr;simp only[WD] at hr;split at hr
          · rename_i hnl
            simp only[aSj,aSE] at hnl;obtain⟨hU,hkU⟩:=hnl;have hkU':k∉qH U:=fun h=>by rw[EA.2 h] at hkU;cases hkU
            cases hr;obtain⟨hl,v,xs,hv,hown,hF,hnone,hseal⟩:=hH.blk k _ hk
            let g':Gh:={g with S:=fun b o=>g.S b o∨(v.ownBlock=some b∧o<m*t.cells)}
            have le:Le g w g' w:=⟨fun _ _ h=> .inl h,fun _ _ _=>rfl,fun _ _ h=>h,fun _ _ _ h=>h⟩;have hown2: ∀b,v.ownBlock=some b→∀o,s6 g k (.row e0 t l m) b o:=fun b hb o=>⟨v,hv,hb⟩
            have hlist: ∀u,g.cur k m=some u→((u= .slice none 0 0∧m=0)∨∃b cap,u= .slice (some ⟨b,0,none⟩) m cap∧m≤cap)→sR g' w (.list t) l u:=by
              intro u hu hshape;rw[hv] at hu;obtain rfl:=aRY hu;rcases hshape with⟨rfl,h0⟩ |⟨b,cap,rfl,hcap⟩
              · have:l=[]:=aSq (by rw[hl,h0])
                subst this;exact .inr ⟨rfl,none,0,rfl,aSl _,.inl rfl⟩
              refine .inr ⟨rfl,some ⟨b,0,none⟩,cap,by rw[hl],by rw[hl];exact hcap,.inr ⟨b,0,rfl,FZ (AL (fun _ _ h=>vK le h) hF) (fun j u hu=>?_) (fun j hj=>?_)⟩⟩
              · have:=hown.cells (g:=b) rfl j u hu
                rwa [aSS] at this
              right
              exact⟨rfl,by rw[hl] at hj;omega⟩
            have hget: ∀i b,qE ((k,qB.dead)::H) i=some b→(i=k∧b= .dead)∨(i≠k∧qE H i=some b):=by
              intro i b hb;simp only[qE] at hb;split at hb
              .rename_i e1;exact .inl ⟨e1.symm,(aRY hb).symm⟩
              rename_i e1;exact .inr ⟨Ne.symm e1,hb⟩
            have hH':sA g' w ((k,qB.dead)::H):=by
              refine⟨fun i b hb=>?_,fun i j bi bj b o hij h1 h2 o1 o2=>?_,fun b o hS=>?_,hH.tab.1,fun i b bb oo hb ho=>?_⟩
              · rcases hget i b hb with⟨rfl,rfl⟩ |⟨hne,h1⟩
                .trivial
                exact FX (hH.blk i b h1) le rfl rfl (fun _ _ _=>⟨rfl,rfl⟩) (fun _ _=>rfl) (fun bb o ho hS=>by
                   rcases hS with hS|hS
                   .exact hS
                   exact absurd (hown2 bb hS.1 o) (fun h5=>hH.dis i k b _ bb o hne h1 hk ho h5)) (fun _ _ _ _ h=>h)
              · rcases hget i bi h1 with⟨_,rfl⟩ |⟨_,h1⟩
                .exact o1.elim
                rcases hget j bj h2 with⟨_,rfl⟩ |⟨_,h2⟩
                .exact o2.elim
                exact hH.dis i j bi bj b o hij h1 h2 ((w8 (g':=g') (g:=g) rfl rfl).1 o1) ((w8 (g':=g') (g:=g) rfl rfl).1 o2)
              · rcases hS with hS|hS
                .exact hH.sl b o hS
                exact IK hown hS.1
              rcases hget i b hb with⟨_,rfl⟩ |⟨_,h1⟩
              .exact ho.elim
              exact hH.tab.2 i b bb oo h1 ((w8 (g':=g') (g:=g) rfl rfl).1 ho)
            have hsp: ∀p,p∈I0 k m args∨p∈side→p:=fun p hp=>hs p (E7.2 hp)
            have hget2: ∀i,i≠k→qE ((k,qB.dead)::H) i=qE H i:=fun i hi=>by
              simp only[qE];rw[aR4 (Ne.symm hi)]
            have hin: ∀{i},i∈qH U→i≠k:=fun h e=>hkU' (e▸h)
            have hup: ∀{i blk},i∈qH U→qE (qT U H) i=some blk→qE (qT U ((k,qB.dead)::H)) i=some blk:=by
              intro i blk hi h
              have: ∀{U:List (Nat×qB)},i∈qH U→qE (qT U ((k,qB.dead)::H)) i=qE (qT U H) i:=by
                intro U
                induction U with
                |nil=>intro h;cases h
                | cons q U ih=>
                  intro h;obtain⟨j,b⟩:=q;simp only[qT,qE];split
                  .rfl
                  rename_i hne
                  simp only[qH,aSa] at h;exact ih (h.resolve_left (fun e=>hne e.symm))
              rw[this hi];exact h
            have hcells: ∀{i blk},i∈qH U→qE (qT U H) i=some blk→∃t y,blk= .cells t y []∧DS t=true:=by
              intro i blk hi h
              have: ∀{U:List (Nat×qB)},KV U=true→i∈qH U→qE (qT U H) i=some blk→∃t y,blk= .cells t y []∧DS t=true:=by
                intro U
                induction U with
                |nil=>intro _ h;cases h
                | cons q U ih=>
                  intro hU hi h;obtain⟨j,b⟩:=q;cases b with
                  | cells t y ts=>
                    cases ts with
                    |cons _ _=>simp [KV] at hU
                    | nil=>
                      simp only[KV,aSj] at hU;simp only[qT,qE] at h;split at h
                      · obtain rfl:=aRY h
                        exact⟨t,y,rfl,hU.1⟩
                      · rename_i hne
                        simp only[qH,aSa] at hi;exact ih hU.2 (hi.resolve_left (fun e=>hne e.symm)) h
                  |_=>simp [KV] at hU
              exact this hU hi h
            have hownI: ∀b o,sI g' ((k,qB.dead)::H) (qH U) b o→sI g H (qH U) b o:=fun b o ⟨i,blk,hi,h1,h2⟩=>⟨i,blk,hi,(hget2 i (hin hi)).symm.trans h1,(w8 (g':=g') (g:=g) rfl rfl).1 h2⟩;refine(aA1 hcon hH' (aA2 le hlist hargs (fun p hp=>hsp p (.inl hp))) hi (fun p hp=>hsp p (.inr hp)) (fun i hi' hb=>hfr i hi' hb)).mono ?_;rintro en w' ⟨v1,g1,rfl,hE⟩
            let g2:Gh:={g1 with S:=g.S}
            have hle:Le g w g2 w':=⟨fun _ _ h=>h,fun b o h=>hE.le.cell b o (.inl h),fun i p h=>hE.le.J i p h,fun i n u h=>hE.le.cur i n u h⟩
            have hfr2:Fr (sI g H (qH U)) w w' g.S g2.S:=
              ⟨hE.fr.os,hE.fr.tape,hE.fr.output,hE.fr.size,fun b hb hno=>hE.fr.blk b hb (fun o h=>hno o (hownI b o h)),fun b o hb hno=>hE.fr.cell b o hb (fun h=>hno (hownI b o h)),fun _ _ h=> .inl h,fun b s h=>(hE.fr.shape b s h).imp id fun h o=>hownI b o (h o)⟩
            have hgho: ∀i,i∉qH U→g2.J i=g.J i∧g2.cur i=g.cur i:=fun i hi=>hE.gho i hi
            have hperm: ∀i blk b o,i∈qH U→qE (qT U H) i=some blk→s6 g2 i blk b o→w.heap.size≤b∨sI g H (qH U) b o:=fun i blk b o hi hg ho=>
              (hE.perm i blk b o hi (hup hi hg) ((w8 (g':=g2) (g:=g1) rfl rfl).1 ho)).imp id (hownI b o)
            refine⟨v1,g2,rfl,hle,?_,hH.upd hle hfr2 hperm hgho (fun i blk hi hg=>?_) (fun i j bi bj b o hi hj hij hgi hgj hoi hoj=>?_) (fun b o h=>aSv (hH.sl b o h) hE.fr.size),hfr2,hperm,hgho,fun i u y us h=>?_⟩
            .exact aKn hsl hE.slot
            · obtain⟨t2,y2,rfl,hn2⟩:=hcells hi hg
              obtain⟨p,cs,q1,q2,q3,q4,q5,_⟩:=hE.heap.blk i _ (hup hi hg);exact⟨p,cs,q1,IW hn2 q2,q3,q4,fun j hj hS=>q5 j hj (hE.le.S _ _ (.inl hS)),fun _ _ hm=>by cases hm⟩
            .exact hE.heap.dis i j bi bj b o hij (hup hi hgi) (hup hj hgj) ((w8 (g':=g2) (g:=g1) rfl rfl).1 hoi) ((w8 (g':=g2) (g:=g1) rfl rfl).1 hoj)
            by_cases hiU:i∈qH U
            · rcases hE.ty i u y us (hup hiU h) with⟨x',ts',q⟩ |q
              .exact .inl ⟨x',ts',(hget2 i (hin hiU)).symm.trans q⟩
              exact .inr q
            exact .inl ⟨y,us,(yM hiU).symm.trans h⟩
          .cases hr
    |_=>cases hr
theorem aKp {P:Program}{f:FuncId}{F:(t:Ty)→List t.den→Option (List t.den)}(hF:T8 P f F) {g:Gh}{w:pT}{H:rZ}(hH:sA g w H) {args:List qC}{vals:pP}(hargs:uB g w args vals) {e:qP}
    (hr:RD H F args=some e) (hs: ∀p∈e.side,p):Calls P f vals.toArray w (fun en w'=> ∃v g',en= .returned v∧rJ g w H e g' w' v):=by
  unfold RD at hr;split at hr
  · rename_i k n x
    obtain⟨v,vs,rfl,ha,hv⟩:=hargs;rw[show vs=[] from hv];cases hk:qE H k with
    |none=>rw[hk] at hr;cases hr
    | some b=>
      rw[hk] at hr;cases b with
      | row e0 t l m=>
        simp only[WF] at hr;cases hf:F t l with
        |none=>rw[hf] at hr;cases hr
        | some l'=>
          rw[hf] at hr;cases hr;have hnm:n=m:=hs _ aSf;subst hnm;obtain⟨hl,v0,xs,hv0,hown,hFx,hnone,hseal⟩:=hH.blk k _ hk;have h1:=ha.1.1;rw[hv0] at h1;obtain rfl:=aRY h1;refine(hF g w e0 t l l' v0 n xs hH.tab.1 hown hFx hl (hs _ pK) hf).mono ?_;rintro en w' ⟨rfl,hl',xs',k1,k2,k3⟩;have hownk: ∀b,v0.ownBlock=some b→∀o,sI g H [k] b o:=fun b hb o=>⟨k,_,by simp,hk,v0,hv0,hb⟩;refine⟨_,_,rfl,rJ.row (v:=v0) (xs:=xs') hH hl' k1 k2 hnone (fun u hu=>by rw[hv0] at hu;exact(aRY hu).symm) (.inr ⟨v0.ownBlock,k3,hownk⟩) (fun b o hS=>?_) hseal (fun b hb=> .inr (hownk b hb)) ⟨⟨[],rfl,rfl⟩,trivial⟩⟩;have hne:v0.ownBlock≠some b:=fun e=>hseal b e o hS;exact aSh (a:=⟨b,o,none⟩) (k3.block b (hH.sl b o hS) (fun e=>hne e.symm))
      |_=>cases hr
  cases hr
section
variable {P:Program}{o:Oper}{a:Act}{g:Gh}{w:pT}{H:rZ}{T:sG}{Γ:sS}(hT:wA P T) (hΓ:BW P Γ) (hH:sA g w H)
include hT hΓ hH
theorem aA4 {f:FuncId}{args:List qC}{vals:pP}(hargs:uB g w args vals) {base:Nat}{e:qP}(hr:I6 H base args (FN Γ f)=some e) (hs: ∀p∈e.side,p) (hfr:wT g base e):
    (∀args w,(callFunc f args).run P w= .ok (.enter f args) w)∧Calls P f vals.toArray w (fun en w'=> ∃v g',en= .returned v∧rJ g w H e g' w' v):=by
  cases hg:FN Γ f with
  |none=>rw[hg] at hr;cases hr
  | some sg=>
    rw[hg] at hr
    obtain⟨hlt,hg⟩:f<1000000000∧Γ f=some sg:=by
      unfold FN at hg;split at hg
      .rename_i h;exact⟨h,hg⟩
      cases hg
    obtain⟨hcon,hrow⟩:=hΓ f sg hlt hg;refine⟨hcon.1,?_⟩;simp only[I6] at hr;cases hF:sg.row with
    | some F=>
      rw[hF] at hr;exact aKp (hrow F hF) hH hargs hr hs
    | none=>
      rw[hF] at hr;simp only[S6] at hr;cases hn:N6 sg.ps args with
      | some k=>
        rw[hn] at hr;exact aKo hcon hH hargs hr hs hfr
      | none=>
        rw[hn] at hr;exact aA1 hcon hH hargs hr hs hfr
theorem aA5 {fop:Operand}{args:Array Operand}{tys:Array TypeId}(ho:o.op= .call ⟨.value fop,args,tys⟩) {ρ:Operand→qC}(hf:rN g w (ρ fop) (a.eval fop)) (hρ: ∀x∈args.toList,rN g w (ρ x) (a.eval x)) {base:Nat}{e:qP}
    (hr:I7 Γ H base (zZ T ρ args.toList tys.toList) (ρ fop)=some e) (hs: ∀p∈e.side,p) (hfr:wT g base e) (hlen:args.size=tys.size):rG P o a g w H e:=by
  have hargs:=TA (a:=a) (ρ:=ρ) hT hΓ hH (xs:=args.toList) (ts:=tys.toList) (by simpa using hlen) hρ;unfold I7 at hr;split at hr
  · rename_i f caps k heq
    rw[heq] at hf
    obtain⟨vs,hcv,hfv⟩: ∃vs,x5 g caps vs∧a.eval fop= .func (.func f) #[] vs.toArray:=by
      rcases hf.1 with⟨h1,_⟩ |⟨_,vs,h2,h3⟩
      .cases h1
      simp only[aSy,and_true] at h3
      exact⟨vs,h2,h3⟩
    obtain⟨hen,hc⟩:=aA4 hT hΓ hH (aJP hT hΓ hH hargs (aAx hT hΓ hH hcv)) hr hs hfr;intro K Q hK;refine TB ho hfv hen (hc.mono ?_);rintro en w' ⟨v,g',rfl,hE⟩;exact⟨v,rfl,hK _ w' v hE.w⟩
  · rename_i f k heq
    rw[heq] at hf
    have hfv:a.eval fop= .func (.func f) #[] ([]:pP).toArray:=by
      rcases hf.1 with⟨h1,_⟩ |⟨_,h2⟩
      .cases h1
      simpa[Rd,SQ] using h2
    obtain⟨hen,hc⟩:=aA4 hT hΓ hH hargs hr hs hfr;intro K Q hK;refine TB ho hfv hen ?_;rw[List.append_nil];refine hc.mono ?_;rintro en w' ⟨v,g',rfl,hE⟩;exact⟨v,rfl,hK _ w' v hE.w⟩
  cases hr
theorem aKq {fop:Operand}{args:Array Operand}{tys:Array TypeId}(ho:o.op= .call ⟨.value fop,args,tys⟩) {ρ:Operand→qC}(hf:a.eval fop= .func (.func FG) #[] #[]) (hρ: ∀x∈args.toList,rN g w (ρ x) (a.eval x)) {e:qP}
    (hr:XE (zZ T ρ args.toList tys.toList) (rS T HR)=some e) (hlen:args.size=tys.size):rG P o a g w H e:=by
  have hargs:=TA (a:=a) (ρ:=ρ) hT hΓ hH (xs:=args.toList) (ts:=tys.toList) (by simpa using hlen) hρ;have hfv:a.eval fop= .func (.func FG) #[] ([]:pP).toArray:=hf
  have go: ∀{s:qC}{el by':Nat}{ar:Bool}{ls:List (Nat×TypeId×Nat)},zZ T ρ args.toList tys.toList=[s]→rS T HR=some ⟨.ap,el,by',ar,ls⟩→(∀v,rN g w s v→∀g' w',Le g w g' w'→xD g' w' s.1 v)→(∀v,rN g w s v→∃p,v= .pointer p)→rG P o a g w H ⟨[],(.apd s.1,none),[],[]⟩:=by
    intro s el by' ar ls h1 h2 h3 h4;rw[h1] at hargs;obtain⟨v,vs,hv,hs,hvs⟩:=hargs;rw[show vs=[] from hvs] at hv;obtain⟨pp,rfl⟩:=h4 v hs;obtain⟨_,hmk,hen,_,_⟩:=(sL hT h2).2;intro K Q hK;refine TB ho hfv hen ?_;rw[List.append_nil,hv];refine(hmk w pp).mono ?_;rintro en w' ⟨b,rfl,hb,hb2,hc,hbel⟩;have e1:=rJ.below hH hbel
    let g':Gh:={g with S:=fun q oo=>g.S q oo∨(q=b∧oo=0)}
    have le:Le g w' g' w':=⟨fun _ _ h=> .inl h,fun _ _ _=>rfl,fun _ _ h=>h,fun _ _ _ h=>h⟩
    have hno: ∀i blk,qE H i=some blk→∀oo,¬s6 g i blk b oo:=fun i blk h1 oo h2=>by
      have:=IL (hH.blk i blk h1) h2;omega
    have hH2:sA g' w' H:=by
      have h4:sA g w' H:=e1.heap;refine⟨fun i blk hg=>FX (h4.blk i blk hg) le rfl rfl (fun _ _ _=>⟨rfl,rfl⟩) (fun _ _=>rfl) (fun q oo ho hS=>?_) (fun _ _ _ _ h=>h),fun i j bi bj q oo hij h5 h6 o1 o2=>h4.dis i j bi bj q oo hij h5 h6 ((w8 (g':=g') (g:=g) rfl rfl).1 o1) ((w8 (g':=g') (g:=g) rfl rfl).1 o2),fun q oo hS=>?_,h4.tab.1,fun i blk q oo hg ho=>h4.tab.2 i blk q oo hg ((w8 (g':=g') (g:=g) rfl rfl).1 ho)⟩
      · rcases hS with hS|⟨rfl,_⟩
        .exact hS
        exact absurd ho (hno i blk hg oo)
      rcases hS with hS|⟨rfl,_⟩
      .exact h4.sl q oo hS
      exact hb2
    have hle2:Le g w g' w':=e1.le.trans le;refine⟨_,rfl,hK g' w' _ (rJ.w ⟨hle2,⟨⟨b,.pointer pp,rfl,.inr ⟨rfl,rfl⟩,hc,h3 _ hs g' w' hle2⟩,trivial⟩,hH2,⟨e1.fr.os,e1.fr.tape,e1.fr.output,e1.fr.size,e1.fr.blk,e1.fr.cell,fun q oo hS=>?_,e1.fr.shape⟩,fun _ _ _ _ hi=>(by cases hi),fun _ _=>⟨rfl,rfl⟩,fun _ _ y us h=> .inl ⟨y,us,h⟩⟩)⟩;rcases hS with hS|⟨rfl,_⟩
    .exact .inl hS
    exact .inr (.inl hb)
  unfold XE at hr;split at hr
  · rename_i p k el by' ar ls h1 h2
    cases hr
    exact go h1 h2 (fun v hs g' w' hle=>NU hle hs.1) (fun v hs=>by
      rcases hs.1 with⟨h,_⟩ |⟨_,q,_,h⟩
      .cases h
      exact⟨_,(List.cons.inj h).1⟩)
  · rename_i k n c ix oo k2 el by' ar ls h1 h2
    cases hr
    exact go h1 h2 (fun v hs g' w' hle=>NU hle hs.1) (fun v hs=>by
      obtain⟨b,cap,_,_,_,h⟩:=hs.1;exact⟨_,h⟩)
  cases hr
omit hT hΓ hH in
theorem Z6 {x:Nat×Nat}{o n:Nat}: ∀{ts:pN},x∈t6 ts o n→x∈ts
  |[],h=>h
  | (q,k)::r,h=>by
    simp only[t6] at h;split at h
    .exact aSb _ (Z6 h)
    rcases aSa.1 h with h|h
    .rw[h];exact aSf
    exact aSb _ (Z6 h)
omit hT hΓ hH in
theorem aKr {v:Ty}: ∀{t:Ty}{x:t.den}{o:Nat}{y:pE}{l:(Ty.list v).den},qZ .str t x o=some y→qZ (.list v) t x o=some l→False:=by
  intro t
  induction t with
  | pair a b iha ihb=>
    intro x o y l h g
    have key: ∀{w:Ty}(hw:w.isRow=false),qZ w (.pair a b) x o=(if o<a.cells then qZ w a x.1 o else qZ w b x.2 (o-a.cells)):=by
      intro w hw;cases o with
      | zero=>
        conv=>lhs;unfold qZ
        rw[aS8 (by intro e;subst e;cases hw),Nat.zero_sub]
      |succ o=>simp [qZ]
    rw[key rfl] at h g;split at h
    · rename_i ho
      rw[aRZ ho] at g;exact iha h g
    · rename_i ho
      rw[aR4 ho] at g;exact ihb h g
  | str=>
    intro x o y l h g;cases o with
    | zero=>
      unfold qZ at g;split at g
      .rename_i e;cases e
      .cases g
    |succ o=>simp [qZ] at g
  | _=>
    intro x o y l h g;cases o with
    | zero=>
      unfold qZ at h;split at h
      .rename_i e;cases e
      .cases h
    |succ o=>simp [qZ] at h
omit hT hΓ in
theorem aKs {i:Nat}{u:Ty}{x z:u.den}{y:pE}{toks0 toks:pN}{p:Pl}(hb:qE H i=some (.cells u x toks0)) (hp:g.J i=some p) (hsub: ∀x∈toks,x∈toks0) {o:Nat}(hg:qZ .str u x o=some y) (hset:sD .str y u x o=some z):
    rJ g w H ⟨[],(.any,none),[(i,.cells u z toks)],[]⟩ g w undef:=by
  refine rJ.reread hH hb hp hsub (fun cs hR _=>?_) (fun v q l hl=>T0 hH hset hl (fun⟨h1,h2⟩=>?_))
  · obtain⟨c1,c2,c3,rfl,rfl,hR2⟩:=A1 hR hg
    have e2:c2=[.string ⟨y.toArray⟩]:=hR2;exact YK hset (v:= .string ⟨y.toArray⟩) rfl hR (by rw[e2];simp)
  have:q=o:=by simp only[Ty.cells] at h2;omega
  subst this;exact aKr hg hl
omit hT hΓ in
theorem aA6 {i:Nat}{u:Ty}{x z:u.den}{b:Bool}{y:pE}{ts:pN}{p:Pl}{o:Nat}(hb:qE H i=some (.cells u x ts)) (hp:g.J i=some p) (hset:L1 b y o (some x)=some z):
    rJ g w H ⟨[],(.any,none),[(i,.cells u z (t6 ts o 1))],[]⟩ g (if b=true then w.setCells p.1 (p.2+o) [.string ⟨y.toArray⟩] else w) undef:=by
  simp only[L1] at hset;cases hy:qZ .str u x o with
  |none=>rw[hy] at hset;cases hset
  | some y0=>
    rw[hy] at hset;simp only[a9w] at hset;cases b with
    | true=>
      rw[aRZ rfl];exact(rJ.store (side:=[]) (rds:=[]) (k:=none) (v:= .string ⟨y.toArray⟩) hH hb hp (t:= .str) hset (cy:=[.string ⟨y.toArray⟩]) rfl trivial (fun _ _ _=>rfl) (fun _=>rfl)).1
    | false=>
      rw[aR4 pK];exact aKs hH hb hp (fun _ h=>Z6 h) hy hset
omit hT hΓ in
theorem rJ.again {k:Nat}{b:qB}(hk:qE H k=some b):rJ g w H ⟨[],(.any,none),[(k,b)],[]⟩ g w undef:=by
  refine rJ.more (U:=[]) (sd:=[]) (r:=[]) (rJ.pure hH ⟨trivial,trivial⟩) (fun i=>?_) (fun _ h=>by cases h);simp only[qT,qE];split
  .rename_i e;subst e;exact hk.symm
  rfl
omit hT hΓ in
theorem aA7 {i:Nat}{u:Ty}{x:u.den}{y:pE}{ts:pN}{p:Pl}{o:Nat}(hb:qE H i=some (.cells u x ts)) (hp:g.J i=some p) (hy:qZ .str u x o=some y):w.cell? ⟨p.1,p.2+o,none⟩=some (.string ⟨y.toArray⟩)∧w.frozen? ⟨p.1,p.2+o,none⟩=false:=by
  obtain⟨p',cs,hp',hR,hra,hth,_,_⟩:=hH.blk i _ hb;rw[hp] at hp';obtain rfl:=aRY hp';have hl:=sJ hR;obtain⟨c1,c2,c3,rfl,rfl,hR2⟩:=A1 hR hy;have e2:c2=[.string ⟨y.toArray⟩]:=hR2;subst e2;simp only[aRX,aS5] at hl;exact⟨hra _ _ pK,(hth.1 _ pI).2⟩
omit hT hΓ in
theorem aA8 {k:Nat}{e:TypeId}{t:Ty}{l:List t.den}{m b cap j o':Nat}{x:t.den}{v:pU}(hk:qE H k=some (.row e t l m)) (hcur:g.cur k m=some (.slice (some ⟨b,0,none⟩) m cap)) (hx:l[j]? =some x) (hv: ∀cs,Rd g w t x cs→cs[o']? =some v) (ho:o'<t.cells):
    w.cell? ⟨b,j*t.cells+o',none⟩=some v∧w.frozen? ⟨b,j*t.cells+o',none⟩=false:=by
  obtain⟨hl,v0,xs,hv0,hown,hF,_,_⟩:=hH.blk k _ hk;rw[hcur] at hv0;obtain rfl:=aRY hv0;obtain⟨c1,c2,c3,e1,e2,e3,e4⟩:=SX hF hx
  have h1:=hown.cells (g:=b) rfl (j*t.cells+o') v (by
    rw[e1,aR9,aR5 pI,e2,aSB,aSc pI];exact hv c2 e4)
  rw[aSS,aSu] at h1;rcases hown.2 with⟨h5,_⟩ |⟨q,cap',cur,h5,_,hg,_⟩
  .cases h5
  simp only[aTk,aRV,Addr.mk.injEq,and_true,true_and] at h5;obtain⟨rfl,rfl⟩:=h5;exact⟨h1,frozen_of_row w b _ cur e hg⟩
omit hT hΓ in
theorem aKt {k:Nat}{e:TypeId}{l:pF}{m:Nat}{b:Bool}{z:pE}(hk:qE H k=some (.row e .str l m)) {bb cap:Nat}(hc:b=true→g.cur k m=some (.slice (some ⟨bb,0,none⟩) m cap)∧0<m):
    ∃g',rJ g w H ⟨[],(.any,none),[(k,.row e .str (FP b z l) m)],[]⟩ g' (if b=true then w.setCells bb (m-1) [.string ⟨z.toArray⟩] else w) undef:=by
  cases b with
  | false=>
    rw[aR4 pK];exact⟨g,rJ.again hH hk⟩
  | true=>
    obtain⟨h1,h2⟩:=hc rfl;have hl:=(hH.blk k _ hk).1;rw[aRZ rfl];have:=rJ.poke (o':=0) (uT:= .str) (y:=z) (z':=z) (i:=((m-1:Nat):Int)) (u:= .string ⟨z.toArray⟩) hH hk h1 pI pI (by unfold sD;rw[aTE rfl];rfl) rfl;refine⟨g.tok k m (.slice (some ⟨bb,0,none⟩) m cap),?_⟩
    have e1:FP true z l=l.set (((m-1:Nat):Int)).toNat z:=by
      unfold FP;rw[aRZ rfl,aSP,hl]
    have e2:(((m-1:Nat):Int)).toNat*(Ty.str).cells+0=m-1:=by simp [Ty.cells]
    rw[e1];rw[e2] at this;exact this
omit hT hΓ in
theorem aKu {k:Nat}{e:TypeId}{l:List (pE×pE×Unit)}{m:Nat}{b:Bool}{z:pE}(hk:qE H k=some (.row e DX l m)) {bb cap:Nat}(hc:b=true→g.cur k m=some (.slice (some ⟨bb,0,none⟩) m cap)∧0<m):
    ∃g',rJ g w H ⟨[],(.any,none),[(k,.row e DX (I9 b z l) m)],[]⟩ g' (if b=true then w.setCells bb ((m-1)*2+1) [.string ⟨z.toArray⟩] else w) undef:=by
  cases b with
  | false=>
    rw[aR4 pK];exact⟨g,rJ.again hH hk⟩
  | true=>
    obtain⟨h1,h2⟩:=hc rfl;have hl:List.length l=m:=(hH.blk k _ hk).1;rw[aRZ rfl]
    have hn:qR DX l (((m-1:Nat):Int))=l.getD (l.length-1) ([],[],()):=by
      unfold qR;rw[aSP,hl];rfl
    have:=rJ.poke (t:=DX) (l:=l) (o':=1) (uT:= .str) (y:=z) (z':=((l.getD (l.length-1) ([],[],())).1,z,())) (i:=((m-1:Nat):Int)) (u:= .string ⟨z.toArray⟩) hH hk h1 pI pI (by rw[hn];rfl) rfl;refine⟨g.tok k m (.slice (some ⟨bb,0,none⟩) m cap),?_⟩
    have e1:I9 true z l=List.set l (((m-1:Nat):Int)).toNat ((l.getD (l.length-1) ([],[],())).1,z,()):=by
      unfold I9;rw[aRZ rfl,aSP,hl]
    have e2:(((m-1:Nat):Int)).toNat*DX.cells+1=(m-1)*2+1:=by simp [Ty.cells]
    rw[e1];rw[e2] at this;exact this
theorem aKv {fop:Operand}{args:Array Operand}{tys:Array TypeId}(ho:o.op= .call ⟨.value fop,args,tys⟩) {ρ:Operand→qC}{x:Nat×Nat×(Nat×Nat)×(Nat×Nat)}(hf:sR g w .ap x (a.eval fop)) (hρ: ∀x∈args.toList,rN g w (ρ x) (a.eval x)) {e:qP}
    (hr:IA Γ H x (zZ T ρ args.toList tys.toList) (rS T HR)=some e) (hs: ∀p∈e.side,p) (hlen:args.size=tys.size):rG P o a g w H e:=by
  have hargs:=TA (a:=a) (ρ:=ρ) hT hΓ hH (xs:=args.toList) (ts:=tys.toList) (by simpa using hlen) hρ;generalize hss:zZ T ρ args.toList tys.toList=ss at hr hargs;generalize hst:rS T HR=ot at hr;unfold IA at hr;split at hr
  case h_2=>cases hr
  rename_i c i k3 n3 k4 n4 s kk el by' ar ls;obtain⟨v0,vs',hv,hs1,hvs⟩:=hargs;rw[show vs'=[] from hvs] at hv;have hv0:=vM hs1.1;obtain⟨_,_,_,hen,hap⟩:=(sL hT hst).2;generalize hi:qE H i=oi at hr;generalize hne:XJ i k3 k4=ne at hr;unfold SA at hr;split at hr
  case h_2=>cases hr
  rename_i u xo ts;generalize h3:qE H k3=o3 at hr;generalize h4:qE H k4=o4 at hr;unfold XI at hr;split at hr
  case h_2=>cases hr
  rename_i e3 l3 m3 e4 l4 m4;generalize hsg:FN Γ DP=osg at hr;generalize hy1:qZ .str u xo 6=oy1 at hr;generalize hy2:qZ .str u xo 7=oy2 at hr;cases osg with
  |none=>cases hr
  |some sg=>
  cases oy1 with
  |none=>cases hr
  |some y1=>
  cases oy2 with
  |none=>cases hr
  |some y2=>
  simp only[XH] at hr;generalize hy:NI c y1 y2 (FO l3) (KZ l4)=y at hr;generalize hC:sg.C [(.val .str (y++s),none)] []=oC at hr;unfold XG at hr;split at hr
  case h_2=>cases hr
  rename_i sd ok;generalize hx1:L1 (ok&&decide (c=1)) (y++s) 6 (some xo)=ox1 at hr;cases ox1 with
  |none=>cases hr
  |some x1=>
  generalize hx2:L1 (ok&&decide (c=2)) (y++s) 7 (some x1)=ox2 at hr;cases ox2 with
  |none=>cases hr
  |some x2=>
  simp only[XF,aRV] at hr;subst hr;have hc0:c≠0:=hs _ pK;have hn3:n3=m3:=hs _ pK;have hn4:n4=m4:=hs _ pK;have hlz:((y++s).length:Int)≤9223372036854775807:=hs _ pK;have hsd: ∀p∈sd,p:=fun p hp=>hs p (by simp [hp]);subst hn3 hn4
  obtain⟨hik3,hik4,hk34⟩:i≠k3∧i≠k4∧k3≠k4:=by
    unfold XJ at hne;split at hne
    .cases hne
    split at hne
    .cases hne
    split at hne
    .cases hne
    exact⟨by assumption,by assumption,by assumption⟩
  rcases wB rfl hf with⟨h,_⟩ |⟨_,b,α,e1,hS,hcell,a1,a2,a3,a4⟩
  .exact absurd h hc0
  simp only[aSy,and_true] at e1;obtain⟨p,cs0,hp,_⟩:=hH.blk i _ hi
  have hα:w.cell? α=some (.string ⟨y.toArray⟩)∧w.frozen? α=false∧α.spot=none:=by
    by_cases c1:c=1
    · subst c1
      obtain⟨p',hp',rfl⟩:=a1 rfl;rw[hp] at hp';obtain rfl:=aRY hp';have:y=y1:=by rw[←hy];rfl
      subst this;have:=aA7 hH hi hp hy1;exact⟨this.1,this.2,rfl⟩
    by_cases c2:c=2
    · subst c2
      obtain⟨p',hp',rfl⟩:=a2 rfl;rw[hp] at hp';obtain rfl:=aRY hp';have:y=y2:=by rw[←hy];rfl
      subst this;have:=aA7 hH hi hp hy2;exact⟨this.1,this.2,rfl⟩
    by_cases c3:c=3
    · subst c3
      obtain⟨bb,cap,hcur,hpos,rfl⟩:=a3 rfl;have:y=FO l3:=by rw[←hy];rfl
      subst this;have hl:List.length l3=n3:=(hH.blk k3 _ h3).1;have hlt:n3-1<l3.length:=by omega
      have hx:l3[n3-1]? =some (FO l3):=by
        unfold FO;rw[aSo,hl,aR3 hlt];rfl
      have:=aA8 (o':=0) hH h3 hcur hx (fun cs hR=>by rw[show cs=[.string ⟨(FO l3).toArray⟩] from hR];rfl) (by simp [Ty.cells]);simp only[Ty.cells,aTu,aSM] at this;exact⟨this.1,this.2,rfl⟩
    obtain⟨bb,cap,hcur,hpos,rfl⟩:=a4 pI
    have:y=KZ l4:=by
      rw[←hy];unfold NI;rw[aR4 c1,aR4 c2,aR4 c3]
    subst this;have hl:List.length l4=n4:=(hH.blk k4 _ h4).1;have hlt:n4-1<List.length l4:=by omega
    have hx:l4[n4-1]? =some (l4.getD (l4.length-1) ([],[],())):=by
      rw[aSo,hl,aR3 hlt];rfl
    have:=aA8 (t:=DX) (o':=1) (v:= .string ⟨(KZ l4).toArray⟩) hH h4 hcur hx (fun cs hR=>by
      obtain⟨d1,d2,rfl,r1,e1,e2,rfl,r2,r3⟩:=hR;rw[show d1=[_] from r1,show e1=[_] from r2];rfl) (by simp [Ty.cells])
    simp only[Ty.cells] at this;exact⟨this.1,this.2,rfl⟩
  have hval: ∀w1,Below w.heap.size w w1→Calls P DP #[.string ⟨(y++s).toArray⟩] w1 fun e w'=>e= .returned (.bool ok)∧Below w1.heap.size w1 w':=by
    intro w1 hb1
    obtain⟨hlt,hg⟩:DP<1000000000∧Γ DP=some sg:=by
      unfold FN at hsg;split at hsg
      .rename_i h;exact⟨h,hsg⟩
      cases hsg
    have hT1:CP w1:=FH hH.tab.1 hb1.size (fun q hq=>hb1.block q (aSv hq hH.tab.1.1));have hH0:sA ⟨fun _ _=>False,fun _=>none,fun _ _=>none⟩ w1 (qS 0 []):=⟨fun _ _ h=>(by cases h),fun _ _ _ _ _ _ _ h=>(by cases h),fun _ _ h=>h.elim,⟨hT1,fun _ _ _ _ h=>(by cases h)⟩⟩;refine((hΓ DP sg hlt hg).1.2 _ w1 [(.val .str (y++s),none)] [.string ⟨(y++s).toArray⟩] [] _ hH0 ⟨_,[],rfl,⟨.inr ⟨rfl,rfl⟩,trivial⟩,rfl⟩ hC hsd).mono ?_;rintro en w' ⟨v,g',rfl,r⟩;refine⟨by rw[uJ r.ret.1],r.fr.os,r.fr.tape,r.fr.output,r.fr.size,fun q hq=>r.fr.blk q hq fun oo ⟨j,blk,h1,_⟩=>(by cases h1)⟩
  have key:=hap w b α y s ok hcell hα.1 hα.2.1 hα.2.2 hlz hval;intro K Q hK;refine TB ho (caps:=[.pointer (some ⟨b,0,none⟩)]) (by rw[e1]) hen ?_;rw[hv,hv0];refine key.mono ?_;rintro en w' ⟨rfl,w1,hbel,hw'⟩;have E0:=rJ.below hH hbel;have E1:=aA6 (b:=ok&&decide (c=1)) (y:=y++s) (o:=6) E0.heap hi hp hx1;have hi1:qE (qT [(i,qB.cells u x1 (t6 ts 6 1))] H) i=some (.cells u x1 (t6 ts 6 1)):=by simp [qT,qE]
  have E2:=aA6 (b:=ok&&decide (c=2)) (y:=y++s) (o:=7) E1.heap hi1 hp hx2
  have h3':qE (qT [(i,qB.cells u x2 (t6 (t6 ts 6 1) 7 1))] (qT [(i,qB.cells u x1 (t6 ts 6 1))] (qT [] H))) k3=some (.row e3 .str l3 n3):=by
    simp only[qT,qE];rw[aR4 hik3,aR4 hik3];exact h3
  obtain⟨bb,cap,hb3⟩: ∃bb cap,((ok&&decide (c=3))=true→g.cur k3 n3=some (.slice (some ⟨bb,0,none⟩) n3 cap)∧0<n3∧α=⟨bb,n3-1,none⟩):=by
    by_cases c3:c=3
    · obtain⟨bb,cap,q1,q2,q3⟩:=a3 c3
      exact⟨bb,cap,fun _=>⟨q1,q2,q3⟩⟩
    exact⟨0,0,fun h=>by simp [c3] at h⟩
  obtain⟨g3,E3⟩:=aKt (b:=ok&&decide (c=3)) (z:=y++s) (bb:=bb) (cap:=cap) E2.heap h3' (fun h=>⟨(hb3 h).1,(hb3 h).2.1⟩)
  have h4':qE (qT [(k3,qB.row e3 .str (FP (ok&&decide (c=3)) (y++s) l3) n3)] (qT [(i,qB.cells u x2 (t6 (t6 ts 6 1) 7 1))] (qT [(i,qB.cells u x1 (t6 ts 6 1))] (qT [] H)))) k4=some (.row e4 DX l4 n4):=by
    simp only[qT,qE];rw[aR4 hk34,aR4 hik4,aR4 hik4];exact h4
  obtain⟨bb4,cap4,hb4⟩: ∃bb cap,((ok&&decide (4≤c))=true→g.cur k4 n4=some (.slice (some ⟨bb,0,none⟩) n4 cap)∧0<n4∧α=⟨bb,(n4-1)*2+1,none⟩):=by
    by_cases c4:4≤c
    · obtain⟨bb,cap,q1,q2,q3⟩:=a4 c4
      exact⟨bb,cap,fun _=>⟨q1,q2,q3⟩⟩
    exact⟨0,0,fun h=>by simp [c4] at h⟩
  obtain⟨g4,E4⟩:=aKu (b:=ok&&decide (4≤c)) (z:=y++s) (bb:=bb4) (cap:=cap4) E3.heap h4' (fun h=>⟨E3.le.cur _ _ _ (hb4 h).1,(hb4 h).2.1⟩);have T1:=rJ.trans (side:=[]) (rds:=[]) E0 E1;have T2:=rJ.trans (side:=[]) (rds:=[]) T1 E2;have T3:=rJ.trans (side:=[]) (rds:=[]) T2 E3;have T4:=rJ.trans (side:=[]) (rds:=[]) T3 E4
  have hww:(if (ok&&decide (4≤c))=true then(if (ok&&decide (c=3))=true then(if (ok&&decide (c=2))=true then(if (ok&&decide (c=1))=true then w1.setCells p.1 (p.2+6) [.string ⟨(y++s).toArray⟩] else w1).setCells p.1 (p.2+7) [.string ⟨(y++s).toArray⟩] else(if (ok&&decide (c=1))=true then w1.setCells p.1 (p.2+6) [.string ⟨(y++s).toArray⟩] else w1)).setCells bb (n3-1) [.string ⟨(y++s).toArray⟩] else(if (ok&&decide (c=2))=true then(if (ok&&decide (c=1))=true then w1.setCells p.1 (p.2+6) [.string ⟨(y++s).toArray⟩] else w1).setCells p.1 (p.2+7) [.string ⟨(y++s).toArray⟩] else(if (ok&&decide (c=1))=true then w1.setCells p.1 (p.2+6) [.string ⟨(y++s).toArray⟩] else w1))).setCells bb4 ((n4-1)*2+1) [.string ⟨(y++s).toArray⟩] else(if (ok&&decide (c=3))=true then(if (ok&&decide (c=2))=true then(if (ok&&decide (c=1))=true then w1.setCells p.1 (p.2+6) [.string ⟨(y++s).toArray⟩] else w1).setCells p.1 (p.2+7) [.string ⟨(y++s).toArray⟩] else(if (ok&&decide (c=1))=true then w1.setCells p.1 (p.2+6) [.string ⟨(y++s).toArray⟩] else w1)).setCells bb (n3-1) [.string ⟨(y++s).toArray⟩] else(if (ok&&decide (c=2))=true then(if (ok&&decide (c=1))=true then w1.setCells p.1 (p.2+6) [.string ⟨(y++s).toArray⟩] else w1).setCells p.1 (p.2+7) [.string ⟨(y++s).toArray⟩] else(if (ok&&decide (c=1))=true then w1.setCells p.1 (p.2+6) [.string ⟨(y++s).toArray⟩] else w1))))=w':=by
    rw[hw'];cases ok with
    |false=>simp
    | true=>
      by_cases c1:c=1
      · subst c1
        obtain⟨p',hp',rfl⟩:=a1 rfl;rw[hp] at hp';obtain rfl:=aRY hp';simp
      by_cases c2:c=2
      · subst c2
        obtain⟨p',hp',rfl⟩:=a2 rfl;rw[hp] at hp';obtain rfl:=aRY hp';simp
      by_cases c3:c=3
      · subst c3
        rw[(hb3 pK).2.2];simp
      have c4:4≤c:=by omega
      rw[(hb4 (by simp [c4])).2.2];simp [c1,c2,c3,c4]
  rw[hww] at T4;refine⟨_,rfl,hK g4 w' _ (rJ.w ?_)⟩;refine(rJ.more (sd2:=[]) (r2:=[]) (U2:=[(i,qB.cells u x2 (t6 (t6 ts 6 1) 7 1)),(k3,.row e3 .str (FP (ok&&decide (c=3)) (y++s) l3) n3),(k4,.row e4 DX (I9 (ok&&decide (4≤c)) (y++s) l4) n4)]) T4 (fun j=>?_) (fun j hj=>?_)).slot' ⟨.inr ⟨rfl,rfl⟩,trivial⟩
  · simp only[qT,qE]
    by_cases j1:i=j
    · subst j1
      rw[aRZ rfl,aR4 (Ne.symm hik4),aR4 (Ne.symm hik3),aRZ rfl]
    rw[aR4 j1]
    by_cases j3:k3=j
    · subst j3
      rw[aRZ rfl,aR4 (Ne.symm hk34),aRZ rfl]
    rw[aR4 j3]
    by_cases j4:k4=j
    · subst j4
      rw[aRZ rfl,aRZ rfl]
    rw[aR4 j4,aR4 j4,aR4 j3,aR4 j1,aR4 j1]
  simp only[qT,qH,aSa,aTa,or_false] at hj|-
  rcases hj with rfl|rfl|rfl|rfl<;>simp
theorem aKw {fop:Operand}{args:Array Operand}{tys:Array TypeId}(ho:o.op= .call ⟨.value fop,args,tys⟩) {ρ:Operand→qC}(hf:rN g w (ρ fop) (a.eval fop)) (hρ: ∀x∈args.toList,rN g w (ρ x) (a.eval x)) {base:Nat}{e:qP}
    (hr:L2 T Γ base H (zZ T ρ args.toList tys.toList) (ρ fop)=some e) (hs: ∀p∈e.side,p) (hfr:wT g base e) (hlen:args.size=tys.size):rG P o a g w H e:=by
  unfold L2 at hr;split at hr
  · rename_i x k heq
    rw[heq] at hf;exact aKv hT hΓ hH ho hf.1 hρ hr hs hlen
  · rename_i f caps k heq
    unfold XK at hr;split at hr
    · rename_i hfm
      rw[heq] at hf;unfold a9v at hr;split at hr
      · subst hfm
        refine aKq hT hΓ hH ho ?_ hρ hr hlen;rcases hf.1 with⟨h1,_⟩ |⟨_,vs,h2,h3⟩
        .cases h1
        rw[show vs=[] from h2] at h3
        simpa using h3
      cases hr
    exact aA5 hT hΓ hH ho hf hρ (by rw[heq];exact hr) hs hfr hlen
  rename_i s _ _
  exact aA5 hT hΓ hH ho hf hρ hr hs hfr hlen
theorem aA9: ∀{xs:List Operand}{ts:List TypeId},I8 xs ts=true→xs.length=ts.length
  |[],[],_=>rfl
  |_::xs,_::ts,h=>by simp only[I8] at h;simp [aA9 h]
  |[],_::_,h=>by cases h
  |_::_,[],h=>by cases h
theorem Z7 {op:Op}(ho:o.op=op) {ρ:Operand→qC}(hρ: ∀x∈sF op,rN g w (ρ x) (a.eval x)) {base:Nat}{e:qP}(hr:tQ T Γ o.type ρ base H op=some e) (hs: ∀p∈e.side,p) (hf:wT g base e):rG P o a g w H e:=by
  unfold tQ at hr;split at hr
  · rename_i x
    exact aAh hT hH (.inl ho) (hρ x (by simp [sF])) hr hf
  · rename_i x
    exact aAh hT hH (.inr ho) (hρ x (by simp [sF])) hr hf
  .exact aJu hT hH ho hr hf
  · rename_i t x
    exact aJv hT hH ho (hρ x (by simp [sF])) (fun _=>YS hT hΓ hH (hρ x (by simp [sF]))) hr hf
  · rename_i t ps
    exact aI8 hT hH ho (ρ:=ρ) (fun q hq=>hρ q.2 (by
      simp only[sF];generalize ps.toList=l at hq
      induction l with
      |nil=>cases hq
      |cons p l ih=>rcases aSa.1 hq with rfl|h<;>simp_all [sF.parts])) hr
  · rename_i t n ps
    exact aJD hT hH ho (ρ:=ρ) (fun q hq=>hρ q.2 (by
      simp only[sF];generalize ps.toList=l at hq
      induction l with
      |nil=>cases hq
      |cons p l ih=>rcases aSa.1 hq with rfl|h<;>simp_all [sF.parts])) hr hf
  · rename_i t x
    exact aJn hT hH ho (hρ x (by simp [sF])) hr hs
  · rename_i t x y
    exact aJC hT hH ho (hρ x (by simp [sF])) (YS hT hΓ hH (hρ y (by simp [sF]))) hr hs hf
  · rename_i x
    exact aI2 hT hH ho (hρ x (by simp [sF])) hr
  · rename_i op t x y t'
    cases hw:QX op (rS T t) (ρ x) (ρ y) with
    | some r=>
      rw[hw] at hr;exact aIT hH ho (hρ x (by simp [sF])) (hρ y (by simp [sF])) (by rw[hw];exact hr)
    |none=>
    rw[hw] at hr;cases hb:QW op (ρ x) (ρ y) with
    | some r=>
      rw[hb] at hr;exact aIS hH ho (hρ x (by simp [sF])) (hρ y (by simp [sF])) (by rw[hb];exact hr) hs
    | none=>
      rw[hb] at hr;exact aKg hT hH ho (hρ x (by simp [sF])) (hρ y (by simp [sF])) hr
  · rename_i op t x
    exact aIU hH ho (hρ x (by simp [sF])) hr hs
  · rename_i t t' x
    cases hb:QZ (rS T t) (rS T t') (ρ x) with
    | some r=>
      rw[hb] at hr;exact aIV hT hH ho (hρ x (by simp [sF])) (by rw[hb];exact hr)
    | none=>
      rw[hb] at hr;exact aKk hT hH ho (hρ x (by simp [sF])) hr
  · rename_i f first caps
    have hfi:first= #[]:=by
      cases hl:first.toList with
      |nil=>apply aSO.1;simpa using hl
      |cons x l=>rw[hl] at hr;cases hr
    subst hfi;exact aJc hT hH ho (ρ:=ρ) (fun x hx=>hρ x (by simpa[sF] using hx)) hr
  · rename_i t x lo hi
    refine aJo hT hH ho (ρ:=ρ) (hρ x (by simp [sF])) (fun y hy=>hρ y ?_) (fun y hy=>hρ y ?_) hr hs
    · cases lo with
      |none=>simp at hy
      |some l=>simp at hy;subst hy;simp [sF,sF.opt,qT]
    cases hi with
    |none=>simp at hy
    |some l=>simp at hy;subst hy;cases lo<;>simp [sF,sF.opt,qT]
  · rename_i t x f
    exact aI0 hT hH ho (hρ x (by simp [sF])) hr
  · rename_i t x f
    exact aIZ hT hH ho (hρ x (by simp [sF])) hr
  · rename_i t x ix
    exact aI4 hT hH ho (hρ x (by simp [sF])) (hρ ix (by simp [sF])) hr hs
  · rename_i t x ix
    exact aI3 hT hH ho (hρ x (by simp [sF])) (hρ ix (by simp [sF])) hr hs
  · rename_i x i
    exact aI1 hT hH ho (hρ x (by simp [sF])) hr hs
  · rename_i t r
    exact aJG hT hH ho hr hf
  · rename_i t x
    exact aJM hT hH ho (hρ x (by simp [sF])) hr hf
  · rename_i x b
    exact aJN hT hH ho (hρ x (by simp [sF])) hr
  · rename_i t x i ok
    exact aJJ hT hH ho (hρ x (by simp [sF])) (hρ i (by simp [sF])) hr
  · rename_i t m k x
    exact aAu hT hH (.inl ho) (hρ m (by simp [sF])) (hρ k (by simp [sF])) (aAt (hρ x (by simp [sF]))) hr
  · rename_i t m k x
    exact aAu hT hH (.inr ho) (hρ m (by simp [sF])) (hρ k (by simp [sF])) (aAt (hρ x (by simp [sF]))) hr
  · rename_i c
    obtain⟨cal,args,tys⟩:=c;simp only at hr;unfold IB at hr;split at hr
    .exact aJb hT hH ho (ρ:=ρ) (fun x hx=>hρ x (by simpa[sF] using hx)) hr
    .exact aKl hT hH ho (ρ:=ρ) (fun x hx=>hρ x (by simpa[sF] using hx)) hr hs
    .exact a94 (mx:=true) hT hH ho (ρ:=ρ) (fun x hx=>hρ x (by simpa[sF] using hx)) hr
    .exact a94 (mx:=false) hT hH ho (ρ:=ρ) (fun x hx=>hρ x (by simpa[sF] using hx)) hr
    · rename_i f
      cases hsl:I8 args.toList tys.toList with
      |false=>rw[hsl] at hr;cases hr
      | true=>
        rw[hsl] at hr;simp only[XL] at hr;exact aKw hT hΓ hH ho (hρ f (by simp [sF])) (fun x hx=>hρ x (by simp [sF];right;simpa using hx)) hr hs hf (by simpa using aA9 hT hΓ hH hsl)
    cases hr
  cases hr
end
def z7 (g:Gh) (w:pT) (env:List (Nat×qC)) (tmps:Array pU):Prop:= ∀t,rN g w (lk env t) (tmps.getD t undef)
def yA (B:Nat) (w:pT) (ds:List Deferred):Prop:=ds.Nodup/\∀d∈ds,∃D,d={target:= .collected D,args:= #[]}/\B<=D/\NG<=D/\w.heap[D]? =some (.deferred (some []))
theorem aBa (B:Nat) (w:pT):yA B w []:=⟨List.nodup_nil,fun d hd=>by cases hd⟩
theorem yA.same {B:Nat}{w w':pT}{ds:List Deferred}(h:yA B w ds) (hb: ∀D:Nat,w.heap[D]? =some (Obj.deferred (some []))->w'.heap[D]? =some (Obj.deferred (some []))):yA B w' ds:=
 ⟨h.1,fun d hd=>by obtain⟨D,h1,h2,h0,h3⟩:=h.2 d hd;exact⟨D,h1,h2,h0,hb D h3⟩⟩
def ED:Obj->Bool
 | .deferred _=>true
 | .loop _=>true
 |_=>false
theorem Z8 {w:pT}{b:Nat}{ob:Obj}(hd:w.heap[b]? =some ob) (hm:ED ob=true) (o:Nat):w.cell? ⟨b,o,none⟩=none:=by
 unfold World.cell?;simp only[hd];cases ob<;>first|rfl|cases hm
theorem TL {g:Gh}{w:pT}{i:Nat}{blk:qB}(h:yK g w i blk) {b o:Nat}(ho:s6 g i blk b o) {ob:Obj}(hd:w.heap[b]? =some ob) (hm:ED ob=true):False:=by
 have hrow: ∀{e:TypeId}{c n:Nat}{v:pU}{xs:pP},w.ownsRow 0 e c v n xs->v.ownBlock=some b->False:=by
  intro e c n v xs hr hb;rcases hr.2 with⟨rfl,_⟩ |⟨g',cap,cur,rfl,_,h3,_⟩
  .cases hb
  simp only[Value.ownBlock,aRV] at hb;subst hb;rw[hd] at h3;cases h3;cases hm
 cases blk with
 |cells t x toks=>
  obtain⟨p,cs,hp,_,_,ht,_⟩:=h;obtain⟨q,hq,rfl,h1,h2⟩:=ho;rw[hp] at hq;obtain rfl:=aRY hq;have:=(ht.1 (o-p.2) pI).1;rw[Z8 hd hm] at this;cases this
 |grow e c n=>
  obtain⟨v,xs,hv,hr,_⟩:=h;obtain⟨v',hv',hb⟩:=ho;rw[hv] at hv';obtain rfl:=aRY hv';exact hrow hr hb
 |row e t l n=>
  obtain⟨_,v,xs,hv,hr,_⟩:=h;obtain⟨v',hv',hb⟩:=ho;rw[hv] at hv';obtain rfl:=aRY hv';exact hrow hr hb
 |map k v l=>
  obtain⟨p,es,cl,hp,h0,h2,_⟩:=h;obtain⟨q,hq,h1⟩:=ho;rw[hp] at hq;obtain rfl:=aRY hq;rw[show b=p.1 from h1] at hd;rw[h2] at hd;cases hd;cases hm
 |iter s n=>
  obtain⟨p,hp,h0,h2,_⟩:=h;obtain⟨q,hq,h1⟩:=ho;rw[hp] at hq;obtain rfl:=aRY hq;rw[show b=p.1 from h1] at hd;rw[h2] at hd;cases hd;cases hm
 |dead=>exact ho.elim
theorem yA.eff {B:Nat}{g g':Gh}{w w':pT}{H:rZ}{e:qP}{v:pU}{ds:List Deferred}(h:yA B w ds) (hH:sA g w H) (k:y7 g w H e g' w' v):yA B w' ds:=
 h.same fun D hD=>by
  rw[k.fr.blk D (aSn.1 hD).1 (fun o ⟨i,blk,_,h1,h2⟩=>TL (hH.blk i blk h1) h2 hD rfl)];exact hD
structure tZ (B:Nat) (g:Gh) (w:pT) (s:St) (a:Act):Prop where
 env:z7 g w s.env a.tmps
 heap:sA g w s.H
 size:a.tmps.size=s.N
 nb: ∀i,s.nb<=i->g.J i=none/\∀n,g.cur i n=none
 def_:yA B w a.defers
 np:s.np<=s.nb
theorem aKx (g:Gh) (w:pT) (v:pU):xD g w (VY v) v:=by
 unfold VY;split
 .exact uK _ _ _
 .exact vD _ _ _ _
 .rename_i s;have:=AN g w s.data.toList;rw[aTc] at this;exact this
 .exact rfl
 .exact .inr ⟨rfl,rfl⟩
 .exact .inr ⟨rfl,rfl⟩
 .exact .inr ⟨rfl,rfl⟩
 exact trivial
theorem yO {g:Gh}{w:pT}{env:List (Nat×qC)}{a:Act}(h:z7 g w env a.tmps) (x:Operand):rN g w (tE env x) (a.eval x):=by
 cases x with
 |tmp t=>exact h t
 |const v=>exact⟨aKx g w v,trivial⟩
 |func f=>exact⟨.inr ⟨rfl,[],rfl,rfl⟩,trivial⟩
 |global i=>exact⟨trivial,trivial⟩
theorem LF {g:Gh}{w:pT}{G:Bool}(hG:G=true): ∀{ss:List qC}{s:qC}{v:pU},s∈ss->(∀p∈xJ G ss,p)->rN g w s v->rN g w (wP s) v
 |x::ss,s,v,hm,hn,hs=>by
  have hcase: ∀{s:qC},(∀p∈xJ G [s],p)->rN g w s v->rN g w (wP s) v:=by
   intro s hn hs;obtain⟨d,k⟩:=s;cases d with
   |cond p d=>
    refine⟨hs.1.1 (hn (G=true->p=true) (by simp [xJ]) hG),?_⟩;simp only[wP]
   |_=>exact hs
  have hsplit: ∀p,p∈xJ G [x]->p∈xJ G (x::ss):=by
   intro p hp;unfold xJ at hp|-;split at hp
   .cases hp
   .rename_i heq;simp only[aSy] at heq;obtain⟨rfl,rfl⟩:=heq;rcases aSa.1 hp with h|h
    .exact h▸aSf
    cases h
   rename_i h0 heq;simp only[aSy] at heq;obtain⟨_,rfl⟩:=heq;cases hp
  have hsplit2: ∀p,p∈xJ G ss->p∈xJ G (x::ss):=by
   intro p hp;generalize hL:xJ G ss=L at hp;unfold xJ;split
   .rename_i h;cases h
   .rename_i heq;simp only[aSy] at heq;obtain⟨_,rfl⟩:=heq;rw[hL];exact aSb _ hp
   rename_i heq;simp only[aSy] at heq;obtain⟨_,rfl⟩:=heq;rw[hL];exact hp
  rcases aSa.1 hm with rfl|hm
  .exact hcase (fun p hp=>hn p (hsplit p hp)) hs
  exact LF hG hm (fun p hp=>hn p (hsplit2 p hp)) hs
theorem TM {env:List (Nat×qC)}: ∀{xs:List Operand}{x:Operand},x∈xs->tE env x∈AI env xs
 |y::xs,x,h=>by
  simp only[AI];rcases aSa.1 h with rfl|h
  .exact aSf
  exact aSb _ (TM h)
theorem O8: ∀(ops:List Oper) (j:Nat),yH ops j=(ops[j]?).bind (·.dst)
 |[],j=>by simp [yH]
 |o::_,0=>rfl
 |_::r,j+1=>by simpa[yH] using O8 r j
section
variable {P:Program}{g:Gh}{w:pT}{T:sG}{Γ:sS}(hT:wA P T) (hΓ:BW P Γ)
include hT hΓ
theorem aKy {ops:List Oper}{o:Oper}{a:Act}{env:List (Nat×qC)}(henv:z7 g w env a.tmps) {j:Nat}{b:Bool}(hg:o.guard=some (j,b)) {G:Bool}(h:DZ env b (yH ops j)=some G):Region.wanted o (yielded ops.toArray a.tmps)=G:=by
 rw[O8] at h;unfold Region.wanted;rw[hg];simp only;cases hd:(ops[j]?).bind (·.dst) with
 |none=>rw[hd] at h;cases h
 |some t=>
  rw[hd] at h;simp only[DZ] at h;have hy:yielded ops.toArray a.tmps j=match a.tmps[t]? with|some (.bool b)=>some b|_=>none:=by
   unfold yielded;have:(ops.toArray[j]?).bind (·.dst)=some t:=by simpa using hd
   rw[this];rfl
  have hv:=henv t;generalize hl:lk env t=s at h hv;unfold a9A at h;have hb: ∀c,a.tmps.getD t undef= .bool c->a.tmps[t]? =some (.bool c):=by
   intro c hc;rw[aSs] at hc;cases hq:a.tmps[t]? with
   |none=>rw[hq] at hc;simp [undef] at hc
   |some v=>rw[hq] at hc;simp at hc;rw[hc]
  split at h
  .rename_i c k;simp only[aRV] at h;have:=hb _ (uJ hv.1);rw[hy,this,<-h];cases c<;>cases b<;>rfl
  .rename_i p c k;simp only[aRV] at h;subst h;cases p with
   |true=>
    have:=hb _ (uJ (hv.1.1 rfl));rw[hy,this];cases c<;>cases b<;>rfl
   |false=>
    have hu:=hv.1.2 rfl;have: ∀c,a.tmps[t]? ≠some (.bool c):=by
     intro c hc;rw[aSs,hc] at hu;simp [undef] at hu
    rw[hy];cases hq:a.tmps[t]? with
    |none=>cases b<;>rfl
    |some v=>cases v<;>first|(exact absurd hq (this _)) |(cases b<;>rfl)
  cases h
theorem aKz {ops:List Oper}{o:Oper}{a:Act}{env:List (Nat×qC)}(henv:z7 g w env a.tmps) {j:Nat}{b:Bool}(hg:o.guard=some (j,b)) (h:IC env b (yH ops j)=false):Region.wanted o (yielded ops.toArray a.tmps)=false:=by
 rw[O8] at h;unfold Region.wanted;rw[hg];simp only;cases hd:(ops[j]?).bind (·.dst) with
 |none=>rw[hd] at h;cases h
 |some t=>
  rw[hd] at h;simp only[IC] at h;have hy:yielded ops.toArray a.tmps j=match a.tmps[t]? with|some (.bool b)=>some b|_=>none:=by
   unfold yielded;have:(ops.toArray[j]?).bind (·.dst)=some t:=by simpa using hd
   rw[this];rfl
  have hv:=henv t;generalize hl:lk env t=s at h hv;have hb: ∀c,a.tmps.getD t undef= .bool c->a.tmps[t]? =some (.bool c):=by
   intro c hc;rw[aSs] at hc;cases hq:a.tmps[t]? with
   |none=>rw[hq] at hc;simp [undef] at hc
   |some v=>rw[hq] at hc;simp at hc;rw[hc]
  have hun:a.tmps.getD t undef=undef->(yielded ops.toArray a.tmps j==some b)=false:=by
   intro hu;have: ∀c,a.tmps[t]? ≠some (.bool c):=by
    intro c hc;rw[aSs,hc] at hu;simp [undef] at hu
   rw[hy];cases hq:a.tmps[t]? with
   |none=>cases b<;>rfl
   |some v=>cases v<;>first|(exact absurd hq (this _)) |(cases b<;>rfl)
  unfold a9B at h;split at h
  .rename_i c k;have:=hb _ (uJ hv.1);rw[hy,this];cases c<;>cases b<;>first|rfl|cases h
  .rename_i p c k;cases p with
   |true=>
    have:=hb _ (uJ (hv.1.1 rfl));rw[hy,this];cases c<;>cases b<;>first|rfl|cases h
   |false=>exact hun (hv.1.2 rfl)
  .rename_i p k;subst h;exact hun (hv.1.2 rfl)
  cases h
theorem O9 {G:Bool}{p:Prop}: ∀{l:List Prop},p∈l->(G=true->p)∈NL G l
 |q::l,h=>by
  simp only[NL];rcases aSa.1 h with rfl|h
  .exact aSf
  exact aSb _ (O9 h)
theorem Z9 {o:Oper}{a:Act}{H:rZ}(hH:sA g w H) {c x y:Operand}(hop:o.op= .pick c x y) {sc sx sy:qC}(hc:rN g w sc (a.eval c)) (hx:rN g w sx (a.eval x)) (hy:rN g w sy (a.eval y)) {e:qP}(hr:NK sc sx sy=some e) (hs: ∀p∈e.side,p):rG P o a g w H e:=by
 intro K Q hK;unfold NK at hr;split at hr
 .rename_i z k;have hz:=uJ hc.1;have run:(execOp a.eval o).run P w= .ok (.value (if z then a.eval x else a.eval y)) w:=by
   unfold execOp;rw[hop];simp [hz,asBool]
  have uI: ∀{v:Bool}{side:List Prop},(if z then a.eval x else a.eval y)= .bool v->e=⟨side,(.val .bool v,none),[],[]⟩->o.wp P a w K Q:=by
   intro v side hv he;subst he;refine rG.value (v:= .bool v) (g':=g) (w':=w) (H:=H) (by rw[run,hv]) (.pure hH (s:=(.val .bool v,none)) ⟨(uK g w v:xD g w (.val .bool v) (.bool v)),trivial⟩) K Q hK
  unfold a9C at hr;split at hr
  .rename_i m1 _ m2 _;simp only[aRV] at hr;refine uI (v:=cond z m1 m2) ?_ hr.symm;cases z
   .exact uJ hy.1
   exact uJ hx.1
  .rename_i p m1 _ m2 _;simp only[aRV] at hr;refine uI (v:=cond z m1 m2) ?_ hr.symm;cases z
   .exact uJ hy.1
   exact uJ (hx.1.1 (hs (true=true->p=true) (by rw[<-hr];simp) rfl))
  .rename_i m1 _ p m2 _;simp only[aRV] at hr;refine uI (v:=cond z m1 m2) ?_ hr.symm;cases z
   .exact uJ (hy.1.1 (hs (false=false->p=true) (by rw[<-hr];simp) rfl))
   exact uJ hx.1
  .rename_i q m1 _ p m2 _;simp only[aRV] at hr;refine uI (v:=cond z m1 m2) ?_ hr.symm;cases z
   .exact uJ (hy.1.1 (hs (false=false->p=true) (by rw[<-hr];simp) rfl))
   exact uJ (hx.1.1 (hs (true=true->q=true) (by rw[<-hr];simp) rfl))
  .rename_i m1 _ p _;simp only[aRV] at hr;have hz1:z=true:=hs _ (by rw[<-hr];simp);refine uI (v:=m1) ?_ hr.symm;rw[hz1];exact uJ hx.1
  .rename_i q m1 _ p _;simp only[aRV] at hr;have hz1:z=true:=hs (z=true) (by rw[<-hr];simp);refine uI (v:=m1) ?_ hr.symm;rw[hz1];exact uJ (hx.1.1 (hs (q=true) (by rw[<-hr];simp)))
  .rename_i p _ m2 _;simp only[aRV] at hr;have hz1:z=false:=hs _ (by rw[<-hr];simp);refine uI (v:=m2) ?_ hr.symm;rw[hz1];exact uJ hy.1
  .rename_i p _ q m2 _;simp only[aRV] at hr;have hz1:z=false:=hs (z=false) (by rw[<-hr];simp);refine uI (v:=m2) ?_ hr.symm;rw[hz1];exact uJ (hy.1.1 (hs (q=true) (by rw[<-hr];simp)))
  cases hr
 cases hr
omit hT hΓ in
theorem OA {np:Nat}{x:Option qP}{e:qP}(h:XR np x=some e):x=some e/\(FI e.rds=true->FR np e.upd=true):=by
 cases x with
 |none=>cases h
 |some q=>
  simp only[XR] at h;cases hq:FI q.rds with
  |false=>
   rw[hq] at h;cases h;exact⟨rfl,fun h=>by rw[hq] at h;cases h⟩
  |true=>
   rw[hq] at h;simp only[a9F] at h;split at h
   .rename_i hc;cases h;exact⟨rfl,fun _=>hc⟩
   cases h
omit hT hΓ in
theorem aBb {np:Nat}{H:rZ}: ∀{U:List (Nat×qB)},FR np U=true->∀{i:Nat}{u:Ty}{y:u.den}{us:pN},i<np->qE (qT U H) i=some (.cells u y us)->qE H i=some (.cells u y us)
 |[],_,i,u,y,us,_,h=>h
 |(j,b)::U,h,i,u,y,us,hi,hg=>by
  simp only[qT,qE] at hg;split at hg
  .rename_i e;subst e;simp only[aRV] at hg;subst hg;simp only[FR] at h;split at h
   .omega
   cases h
  refine aBb ?_ hi hg;unfold FR at h;split at h
  .rename_i heq;cases heq
  .rename_i heq;cases heq;split at h
   .exact h
   cases h
  rename_i heq;cases heq;exact h
theorem aBc {ops:List Oper}{o:Oper}{a:Act}{s:St}{e:qP}(henv:z7 g w s.env a.tmps) (hH:sA g w s.H) (hr:y6 T Γ ops o s=some e) (hs: ∀p∈e.side,p) (hf:wT g s.nb e) {K:Act->pT->Prop}{Q:Exit->Act->pT->Prop}
  (hK: ∀g' w' v,y7 g w s.H e g' w' v->K (a.put o.dst v) w'):
  if Region.wanted o (yielded ops.toArray a.tmps) then o.wp P a w K Q else K (a.put o.dst undef) w:=by
 replace hr:=(OA hr).1;unfold L8 at hr;cases hgd:o.guard with
 |none=>
  rw[hgd] at hr;simp only at hr;have hw:Region.wanted o (yielded ops.toArray a.tmps)=true:=by unfold Region.wanted;rw[hgd]
  rw[aRZ hw];cases hop:o.op with
  |pick c x y=>
   rw[hop] at hr;simp only[L7] at hr;exact Z9 hT hΓ hH hop (yO henv c) (yO henv x) (yO henv y) hr hs K Q hK
  |_=>
   rw[hop] at hr;simp only[L7] at hr;rw[<-hop] at hr;generalize hpl:tQ T Γ o.type (fun x=>wP (tE s.env x)) s.nb s.H o.op=op at hr;cases op with
   |none=>cases hr
   |some e0=>
    simp only[L5,aRV] at hr;subst hr;refine Z7 hT hΓ hH rfl (ρ:=fun x=>wP (tE s.env x)) (fun x hx=>?_) hpl (fun p hp=>hs p (vU.2 (.inr hp))) hf K Q (fun g' w' v h=>hK g' w' v ⟨h.le,h.slot,h.heap,h.fr,h.perm,h.gho,h.ty⟩);exact LF rfl (TM hx) (fun p hp=>hs p (vU.2 (.inl hp))) (yO henv x)
 |some jb=>
  obtain⟨j,b⟩:=jb;rw[hgd] at hr;simp only at hr;cases hsk:Γ (SG j b) with
  |some sg=>
   rw[hsk] at hr;simp only[NM] at hr;cases hdf:a9D o.op with
   |true=>rw[hdf] at hr;cases hr
   |false=>
   rw[hdf] at hr;simp only[a9E,aRV] at hr;subst hr;have hup:IC s.env b (yH ops j)=false:=hs _ aSf;rw[aKz hT hΓ henv hgd hup,aR4 pJ];exact hK g w undef (y7.pure hH ⟨⟨fun hc=>(by cases hc),fun _=>rfl⟩,trivial⟩)
  |none=>
  rw[hsk] at hr;simp only[NM] at hr;generalize hG:DZ s.env b (yH ops j)=oG at hr;cases oG with
  |none=>cases hr
  |some G=>
   have hw:=aKy hT hΓ henv hgd hG;rw[hw];by_cases hpk: ∃c x y,o.op= .pick c x y
   .obtain⟨c,x,y,hop⟩:=hpk;rw[hop] at hr;simp only[L6] at hr;generalize hpl:NK (wP (tE s.env c)) (tE s.env x) (tE s.env y)=op at hr;cases op with
    |none=>cases hr
    |some e0=>
     unfold FQ at hr;split at hr
     .rename_i side d k rds heq;simp only[aRV] at hr heq;subst hr;subst heq;by_cases hGt:G=true
      .rw[aRZ hGt];refine Z9 hT hΓ hH hop (LF hGt (ss:=[tE s.env c]) pK (fun p hp=>hs p (vU.2 (.inl hp))) (yO henv c)) (yO henv x) (yO henv y) hpl (fun p hp=>hs (G=true->p) (vU.2 (.inr (O9 hT hΓ hp))) hGt) K Q (fun g' w' v h=>hK g' w' v ⟨h.le,⟨⟨fun _=>h.slot.1,fun hc=>by rw[hGt] at hc;cases hc⟩,trivial⟩,h.heap,h.fr,h.perm,h.gho,h.ty⟩)
      rw[aR4 hGt];exact hK g w undef (y7.pure hH ⟨⟨fun hc=>absurd hc hGt,fun _=>rfl⟩,trivial⟩)
     .rename_i side sl u us rds heq;simp only[aRV] at hr heq;subst hr;subst heq;have hGt:G=true:=hs _ aSf;rw[aRZ hGt];exact Z9 hT hΓ hH hop (LF hGt (ss:=[tE s.env c]) pK (fun p hp=>hs p (aSb _ (vU.2 (.inl hp)))) (yO henv c)) (yO henv x) (yO henv y) hpl (fun p hp=>hs (G=true->p) (aSb _ (vU.2 (.inr (O9 hT hΓ hp)))) hGt) K Q (fun g' w' v h=>hK g' w' v ⟨h.le,h.slot,h.heap,h.fr,h.perm,h.gho,h.ty⟩)
     cases hr
   have e1:L6 T Γ o s (some G) o.op=FQ G (xJ G (AI s.env (sF o.op))) (tQ T Γ o.type (fun x=>wP (tE s.env x)) s.nb s.H o.op):=by
    cases ho:o.op<;>first|rfl|(exact absurd ⟨_,_,_,ho⟩ hpk)
   rw[e1] at hr;generalize hpl:tQ T Γ o.type (fun x=>wP (tE s.env x)) s.nb s.H o.op=op at hr;cases op with
   |none=>cases hr
   |some e0=>
    unfold FQ at hr;split at hr
    .rename_i side d k rds heq;simp only[aRV] at hr heq;subst hr;subst heq;by_cases hGt:G=true
     .rw[aRZ hGt];refine Z7 hT hΓ hH rfl (ρ:=fun x=>wP (tE s.env x)) (fun x hx=>?_) hpl (fun p hp=>hs (G=true->p) (vU.2 (.inr (O9 hT hΓ hp))) hGt) (fun i hi=>by cases hi) K Q (fun g' w' v h=>hK g' w' v ⟨h.le,⟨⟨fun _=>h.slot.1,fun hc=>by rw[hGt] at hc;cases hc⟩,trivial⟩,h.heap,h.fr,h.perm,h.gho,h.ty⟩);exact LF hGt (TM hx) (fun p hp=>hs p (vU.2 (.inl hp))) (yO henv x)
     rw[aR4 hGt];exact hK g w undef (y7.pure hH ⟨⟨fun hc=>absurd hc hGt,fun _=>rfl⟩,trivial⟩)
    .rename_i side sl u us rds heq;simp only[aRV] at hr heq;subst hr;subst heq;have hGt:G=true:=hs _ aSf;rw[aRZ hGt];refine Z7 hT hΓ hH rfl (ρ:=fun x=>wP (tE s.env x)) (fun x hx=>?_) hpl (fun p hp=>hs (G=true->p) (aSb _ (vU.2 (.inr (O9 hT hΓ hp)))) hGt) hf K Q (fun g' w' v h=>hK g' w' v ⟨h.le,h.slot,h.heap,h.fr,h.perm,h.gho,h.ty⟩);exact LF hGt (TM hx) (fun p hp=>hs p (aSb _ (vU.2 (.inl hp)))) (yO henv x)
    cases hr
end
structure sU (A:Nat->Nat->Prop) (L:List qB) (g0:Gh) (w0:pT) (g:Gh) (w:pT) (H:rZ):Prop where
 shut: ∀b o,g0.S b o->g.S b o/\w.cell? ⟨b,o,none⟩=w0.cell? ⟨b,o,none⟩
 fr:Fr A w0 w g0.S g.S
 perm: ∀i blk b o,qE H i=some blk->s6 g i blk b o->w0.heap.size<=b\/A b o
 J: ∀i p,i<L.length->g0.J i=some p->g.J i=some p
 live: ∀i,i<L.length->(∃p,g.J i=some p)\/(∃n v,g.cur i n=some v)
 ty: ∀i u y us,i<L.length->qE H i=some (.cells u y us)->∃x ts,L[i]? =some (.cells u x ts)
 cur: ∀i n v,i<L.length->g0.cur i n=some v->g.cur i n=some v
def sU.eff {A:Nat->Nat->Prop}{L:List qB}{g0 g g':Gh}{w0 w w':pT}{H:rZ}{e:qP}{v:pU}(h:sU A L g0 w0 g w H) (k:y7 g w H e g' w' v) (hc:FI e.rds=true->FR L.length e.upd=true):sU A L g0 w0 g' w' (qT e.upd H):=by
 have hown: ∀b o,sI g H (qH e.upd) b o->w0.heap.size<=b\/A b o:=fun b o ⟨i,blk,_,h2,h3⟩=>h.perm i blk b o h2 h3;refine⟨fun b o hs=>?_,h.fr.trans k.fr hown,fun i blk b o hg ho=>?_,fun i p hi hp=>k.le.J _ _ (h.J i p hi hp),fun i hi=>?_,fun i u y us hi hg=>?_,fun i n u hi hu=>k.le.cur _ _ _ (h.cur i n u hi hu)⟩
 .obtain⟨h1,h2⟩:=h.shut b o hs;exact⟨k.le.S b o h1,(k.le.cell b o h1).trans h2⟩
 .by_cases hi:i∈qH e.upd
  .rcases k.perm i blk b o hi hg ho with h1|h1
   .exact .inl (aSL h.fr.size h1)
   exact hown b o h1
  exact h.perm i blk b o ((yM hi).symm.trans hg) ((w8 (k.gho i hi).1 (k.gho i hi).2).1 ho)
 .rcases h.live i hi with⟨p,hp⟩ |⟨n,u,hu⟩
  .exact .inl ⟨p,k.le.J _ _ hp⟩
  exact .inr ⟨n,u,k.le.cur _ _ _ hu⟩
 cases hre:FI e.rds with
 |true=>exact h.ty i u y us hi (aBb (hc hre) hi hg)
 |false=>
  rcases k.ty hre i u y us hg with⟨x,ts,h1⟩ |⟨h1,h2⟩
  .exact h.ty i u x ts hi h1
  rcases h.live i hi with⟨p,hp⟩ |⟨n,u,hu⟩
  .rw[h1] at hp;cases hp
  rw[h2] at hu;cases hu
def yB:pN->Nat->pR
 |[],_=>none
 |(n,o)::r,k=>if n=k then some o else yB r k
def tN (g:Gh) (np:Nat) (m:pN):Gh:=
 ⟨g.S,fun i=>if i<np then g.J i else(yB m i).bind g.J,fun i n=>if i<np then g.cur i n else(yB m i).bind fun o=>g.cur o n⟩
def TN {n o:Nat}: ∀{m:pN},L9 n o m=false->∀n' o',(n',o')∈m->n'≠n/\o'≠o
 |[],_,_,_,h=>by cases h
 |(a,b)::m,h,n',o',hm=>by
  simp only[L9,aTJ,aTd] at h;rcases aSa.1 hm with h1|h1
  .cases h1;exact h.1
  exact TN h.2 n' o' h1
def ZA {np:Nat}: ∀{m:pN},vT np m=true->∀{n o:Nat},(n,o)∈m->yB m n=some o/\(n<np->o=n)
 |[],_,_,_,h=>by cases h
 |(a,b)::m,hk,n,o,h=>by
  simp only[vT,aSj,aSE,aS7,aSi] at hk;obtain⟨⟨h1,h2⟩,h3⟩:=hk;simp only[yB];rcases aSa.1 h with h4|h4
  .cases h4;rw[aRZ rfl];exact⟨rfl,fun h5=>by rcases h1 with h1|h1<;>omega⟩
  have h5:=TN h2 n o h4;rw[aR4 (Ne.symm h5.1)];exact ZA h3 h4
def z8: ∀{m:pN}{k j:Nat},vC m k=some j->(j,k)∈m
 |[],_,_,h=>by cases h
 |(a,b)::m,k,j,h=>by
  simp only[vC] at h;split at h
  .rename_i e;subst e;simp only[aRV] at h;subst h;exact aSf
  exact aSb _ (z8 h)
def xN {g:Gh}{np:Nat}{m:pN}(hk:vT np m=true) {n o:Nat}(h:(n,o)∈m):(tN g np m).J n=g.J o/\(tN g np m).cur n=g.cur o:=by
 obtain⟨h1,h2⟩:=ZA hk h;refine⟨?_,?_⟩
 .show (if n<np then g.J n else(yB m n).bind g.J)=_;by_cases hn:n<np
  .rw[aRZ hn,h2 hn]
  rw[aR4 hn,h1];rfl
 funext q;show (if n<np then g.cur n q else(yB m n).bind fun o=>g.cur o q)=_;by_cases hn:n<np
 .rw[aRZ hn,h2 hn]
 rw[aR4 hn,h1];rfl
def ZB {g:Gh}{np:Nat}{m:pN}(hk:vT np m=true): ∀(l l':pN) (vs:pP),x5 g l vs->AK m l=some l'->x5 (tN g np m) l' vs
 |[],l',vs,h,hr=>by simp only[AK,aRV] at hr;subst hr;exact h
 |(i,o)::l,l',vs,⟨p,vs',h1,h2,h3⟩,hr=>by
  simp only[AK] at hr;cases hi:vC m i with
  |none=>rw[hi] at hr;cases hr2:AK m l<;>rw[hr2] at hr<;>cases hr
  |some j=>
   rw[hi] at hr;cases hr2:AK m l with
   |none=>rw[hr2] at hr;cases hr
   |some l2=>
    rw[hr2] at hr;simp only[AK.renCons,aRV] at hr;subst hr;exact⟨p,vs',by rw[(xN hk (z8 hi)).1];exact h1,h2,ZB hk l l2 vs' h3 hr2⟩
def aKA {m:pN}{u t:Ty}{x y:t.den}{o:Nat}{l:List u.den}(h:xK m t x=some y) (hg:qZ (.list u) t x o=some l):qZ (.list u) t y o=some l:=
 YV (xK m) (fun _ _ _=>rfl) (fun _ _=>rfl) h hg
def aKB {c n3 n4:Nat}{a b d:pR}{y:Nat×Nat×(Nat×Nat)×(Nat×Nat)}(h:XS c n3 n4 a b d=some y): ∃i k3 k4,a=some i/\b=some k3/\d=some k4/\y=(c,i,(k3,n3),(k4,n4)):=by
 unfold XS at h;split at h
 .exact⟨_,_,_,rfl,rfl,rfl,(aRY h).symm⟩
 cases h
def OB {g:Gh}{w:pT}{np:Nat}{m:pN}(hk:vT np m=true): ∀{t:Ty}{x y:t.den}{cs:pP},Rd g w t x cs->xK m t x=some y->Rd (tN g np m) w t y cs
 | .bool,_,_,_,r,h=>by cases h;exact r
 | .int _,_,_,_,r,h=>by cases h;exact r
 | .str,_,_,_,r,h=>by cases h;exact r
 | .unit,_,_,_,r,h=>by cases h;exact r
 | .list t,x,y,_,r,h=>by
  simp only[xK] at h;split at h
  .rename_i hp;cases h;exact uY (g:=g) (g':=tN g np m) rfl (t:= .list t) (by simpa[Ty.pure] using hp) r
  .cases h
 | .ref,none,y,_,r,h=>by cases h;exact r
 | .ref,some (i,o),y,_,⟨p,h1,h2⟩,h=>by
  simp only[xK,SM] at h;cases hi:vC m i with
  |none=>rw[hi] at h;cases h
  |some j=>
   rw[hi] at h;cases h;exact⟨p,by rw[(xN hk (z8 hi)).1];exact h1,h2⟩
 | .clo,none,y,_,r,h=>by cases h;exact r
 | .clo,some (f,l),y,_,⟨vs,h1,h2⟩,h=>by
  simp only[xK,a9J] at h;cases hi:AK m l with
  |none=>rw[hi] at h;cases h
  |some l'=>
   rw[hi] at h;cases h;exact⟨vs,ZB hk l l' vs h1 hi,h2⟩
 | .fn,_,_,_,r,h=>by cases h;exact r
 | .rl _ _,none,y,_,r,h=>by cases h;exact r
 | .rl _ _,some (k,n),y,_,⟨v,h1,h2⟩,h=>by
  simp only[xK,a9L] at h;cases hi:vC m k with
  |none=>rw[hi] at h;cases h
  |some j=>
   rw[hi] at h;cases h;exact⟨v,by rw[(xN hk (z8 hi)).2];exact h1,h2⟩
 | .mref,none,y,_,r,h=>by cases h;exact r
 | .mref,some (i,o),y,_,⟨p,h1,h2⟩,h=>by
  simp only[xK,SM] at h;cases hi:vC m i with
  |none=>rw[hi] at h;cases h
  |some j=>
   rw[hi] at h;cases h;exact⟨p,by rw[(xN hk (z8 hi)).1];exact h1,h2⟩
 | .ap,(c,i,(k3,n3),(k4,n4)),y,_,r,h=>by
  simp only[xK,a9M] at h;obtain⟨i',k3',k4',e1,e2,e3,rfl⟩:=aKB h;exact YW (g:=g) (g':=tN g np m) (fun _ _ h=>⟨h,rfl⟩) (fun p hp=>⟨p,by rw[(xN hk (z8 e1)).1];exact hp,rfl,rfl⟩) (fun v hv=>by rw[(xN hk (z8 e2)).2];exact hv) (fun v hv=>by rw[(xN hk (z8 e3)).2];exact hv) r
 | .mp,none,y,_,r,h=>by cases h;exact r
 | .mp,some i,y,_,⟨p,h1,h2⟩,h=>by
  simp only[xK,a9K] at h;cases hi:vC m i with
  |none=>rw[hi] at h;cases h
  |some j=>
   rw[hi] at h;cases h;exact⟨p,by rw[(xN hk (z8 hi)).1];exact h1,h2⟩
 | .pair a b,x,y,_,⟨c1,c2,e,r1,r2⟩,h=>by
  simp only[xK] at h;obtain⟨h1,h2⟩:=YU h;refine⟨c1,c2,e,?_,?_⟩
  .split at h1
   .rename_i hp;exact(aRY h1)▸uY (g:=g) (g':=tN g np m) rfl hp r1
   exact OB hk r1 h1
  split at h2
  .rename_i hp;exact(aRY h2)▸uY (g:=g) (g':=tN g np m) rfl hp r2
  exact OB hk r2 h2
def TO {g:Gh}{w:pT}{np:Nat}{m:pN}(hk:vT np m=true) {s:qC}{v:pU}(h:rN g w s v):rN (tN g np m) w (yI m s) v:=by
 have caps: ∀(l l':pN) (vs:pP),x5 g l vs->AK m l=some l'->x5 (tN g np m) l' vs:=ZB hk;unfold yI;split
 .rename_i k n k';cases hi:vC m k with
  |none=>exact⟨trivial,trivial⟩
  |some j=>
   obtain⟨h1,h2⟩:=h.1;exact⟨⟨by rw[(xN hk (z8 hi)).2];exact h1,h2⟩,trivial⟩
 .obtain h1:=h.1;refine⟨?_,trivial⟩;rcases h1 with⟨h1,_⟩ |⟨_,h2⟩
  .cases h1
  exact .inr ⟨rfl,h2⟩
 .rename_i p k;obtain⟨i,o⟩:=p;simp only[a9H];cases hi:vC m i with
  |none=>exact⟨trivial,trivial⟩
  |some j=>
   simp only[Option.map_some,yI.refSlot];obtain⟨q,hq,hv⟩:=wC h.1;exact⟨.inr ⟨rfl,q,by rw[(xN hk (z8 hi)).1];exact hq,by rw[hv]⟩,trivial⟩
 .rename_i f l k;cases hl:AK m l with
  |none=>exact⟨trivial,trivial⟩
  |some l'=>
   simp only[yI.cloSlot];rcases h.1 with⟨h1,_⟩ |⟨_,vs,h2,h3⟩
   .cases h1
   exact⟨.inr ⟨rfl,vs,caps l l' vs h2 hl,h3⟩,trivial⟩
 .rename_i i k;cases hi:vC m i with
  |none=>exact⟨trivial,trivial⟩
  |some j=>
   simp only[yI.mpSlot];rcases h.1 with⟨h1,_⟩ |⟨_,p,h2,h3⟩
   .cases h1
   exact⟨.inr ⟨rfl,p,by rw[(xN hk (z8 hi)).1];exact h2,h3⟩,trivial⟩
 .rename_i t x k _ _ _ _;split
  .rename_i hp;have hv:sR (tN g np m) w t x v:=h.1.imp (fun⟨a,cs,e,q⟩=>⟨a,cs,e,uY (g:=g) (g':=tN g np m) rfl hp q⟩) (fun⟨a,q⟩=>⟨a,uY (g:=g) (g':=tN g np m) rfl hp q⟩);refine⟨hv,?_⟩;replace h:=aAw h;generalize htk:CQ t k=k' at h|-;cases k' with
   |none=>trivial
   |some k=>
    simp only[a9I];cases hj:vC m k with
    |none=>trivial
    |some j=>
     have h2:=h.2;cases t with
     |list u=>
      show (tN g np m).cur j _=_;rw[(xN hk (z8 hj)).2];exact h2
     |pair a b=>cases htk
     |_=>exact h2.elim
  cases hy:xK m t x with
  |none=>exact⟨trivial,trivial⟩
  |some y=>
   simp only[yI.valSlot];exact⟨h.1.imp (fun⟨a,cs,e,q⟩=>⟨a,cs,e,OB hk q hy⟩) (fun⟨a,q⟩=>⟨a,OB hk q hy⟩),trivial⟩
 .rename_i t x k;split
  .rename_i hp;obtain⟨b,o,cs,h1,h2,h3,h4⟩:=h.1;exact⟨⟨b,o,cs,h1,h2,h3,uY (g:=g) (g':=tN g np m) rfl hp h4⟩,trivial⟩
  exact⟨trivial,trivial⟩
 .exact⟨h.1,trivial⟩
 exact⟨trivial,trivial⟩
def aBd {q j:Nat}{x:Nat×Nat}: ∀{r:pN},x∈SN q j r->x=(q,j)\/x∈r
 |[],h=> .inl (aSd.1 h)
 |(a,b)::r,h=>by
  simp only[SN] at h;split at h
  .exact aSa.1 h
  rcases aSa.1 h with h|h
  .exact .inr (by rw[h];exact aSf)
  exact(aBd h).imp id (aSb _)
def TP {m:pN}: ∀{ts:pN}{q j:Nat},(q,j)∈IG m ts->∃k,(q,k)∈ts/\vC m k=some j
 |[],_,_,h=>by cases h
 |(a,b)::ts,q,j,h=>by
  simp only[IG] at h;cases hb:vC m b with
  |none=>
   rw[hb] at h;obtain⟨k,h1,h2⟩:=TP h;exact⟨k,aSb _ h1,h2⟩
  |some j'=>
   rw[hb] at h;simp only[IG.renTok1] at h;rcases aBd h with h1|h1
   .cases h1;exact⟨b,aSf,hb⟩
   obtain⟨k,h1,h2⟩:=TP h1;exact⟨k,aSb _ h1,h2⟩
def IX {g:Gh}{w:pT}{np:Nat}{m:pN}(hk:vT np m=true) {n o:Nat}(hm:(n,o)∈m) {b:Option qB}(h: ∀c,b=some c->yK g w o c):
  yK (tN g np m) w n (xL m b)/\∀bb oo,s6 (tN g np m) n (xL m b) bb oo->∃c,b=some c/\s6 g o c bb oo:=by
 obtain⟨hJ,hcur⟩:=xN (g:=g) hk hm;unfold xL;split
 .rename_i t x toks;split
  .rename_i hp;obtain⟨p,cs,h1,h2,h3,h4,h5,h6⟩:=h _ rfl;refine⟨⟨p,cs,by rw[hJ];exact h1,uY (g:=g) (g':=tN g np m) rfl hp h2,h3,h4,h5,fun q j hmem=>?_⟩,fun bb oo ⟨pp,e1,e2⟩=>⟨_,rfl,pp,by rw[hJ] at e1;exact e1,e2⟩⟩;obtain⟨k,k1,k2⟩:=TP hmem;obtain⟨u,l,v,g1,g2,g3⟩:=h6 q k k1;exact⟨u,l,v,g1,g2,by rw[(xN hk (z8 k2)).2];exact g3⟩
  cases hy:xK m t x with
  |none=>exact⟨trivial,fun _ _ h=>h.elim⟩
  |some y=>
   obtain⟨p,cs,h1,h2,h3,h4,h5,h6⟩:=h _ rfl;simp only[XT];refine⟨⟨p,cs,by rw[hJ];exact h1,OB hk h2 hy,h3,h4,h5,fun q j hmem=>?_⟩,fun bb oo ⟨pp,e1,e2⟩=>⟨_,rfl,pp,by rw[hJ] at e1;exact e1,e2⟩⟩;obtain⟨k,k1,k2⟩:=TP hmem;obtain⟨u,l,v,g1,g2,g3⟩:=h6 q k k1;exact⟨u,l,v,aKA hy g1,g2,by rw[(xN hk (z8 k2)).2];exact g3⟩
 .rename_i e c k;obtain⟨v,xs,h1,h2,h3,h4⟩:=h _ rfl;exact⟨⟨v,xs,by rw[hcur];exact h1,h2,fun q hq=>by rw[hcur];exact h3 q hq,h4⟩,fun bb oo ⟨v',e1,e2⟩=>⟨_,rfl,v',by rw[hcur] at e1;exact e1,e2⟩⟩
 .rename_i e t l n;split
  .rename_i hp;obtain⟨h0,v,xs,h1,h2,h5,h3,h4⟩:=h _ rfl;exact⟨⟨h0,v,xs,by rw[hcur];exact h1,h2,AL (fun _ _ h=>uY (g:=g) (g':=tN g np m) rfl hp h) h5,fun q hq=>by rw[hcur];exact h3 q hq,h4⟩,fun bb oo ⟨v',e1,e2⟩=>⟨_,rfl,v',by rw[hcur] at e1;exact e1,e2⟩⟩
  exact⟨trivial,fun _ _ h=>h.elim⟩
 .rename_i k v l;split
  .rename_i hp;rw[aSj] at hp;obtain⟨p,es,cl,h1,h0,h2,h3,h4⟩:=h _ rfl;exact⟨⟨p,es,cl,by rw[hJ];exact h1,h0,h2,NV (g:=g) (g':=tN g np m) rfl hp.1 hp.2 h3,h4⟩,fun bb oo ⟨pp,e1,e2⟩=>⟨_,rfl,pp,by rw[hJ] at e1;exact e1,e2⟩⟩
  exact⟨trivial,fun _ _ h=>h.elim⟩
 .obtain⟨p,h1,h0,h2,h4⟩:=h _ rfl;exact⟨⟨p,by rw[hJ];exact h1,h0,h2,h4⟩,fun bb oo ⟨pp,e1,e2⟩=>⟨_,rfl,pp,by rw[hJ] at e1;exact e1,e2⟩⟩
 exact⟨trivial,fun _ _ h=>h.elim⟩
def G3 {m:pN}{H:rZ}: ∀{l:pN}{n:Nat}{b:qB},qE (SO m H l) n=some b->∃o,(n,o)∈l/\b=xL m (qE H o)
 |[],_,_,h=>by cases h
 |(a,c)::l,n,b,h=>by
  simp only[SO,qE] at h;split at h
  .rename_i e;subst e;exact⟨c,aSf,(aRY h).symm⟩
  obtain⟨o,h1,h2⟩:=G3 h;exact⟨o,aSb _ h1,h2⟩
def aBe {m:pN}{env:List (Nat×qC)}: ∀(l:pS) (t:Nat),lk (NP m env l) t=(.any,none)\/lk (NP m env l) t=yI m (lk env t)
 |[],_=> .inl rfl
 |a::l,t=>by
  simp only[NP,lk];split
  .rename_i e;subst e;exact .inr rfl
  exact aBe l t
def aBf: ∀{m:pN}{n o:Nat},(n,o)∈m->n<SP m
 |(a,b)::m,n,o,h=>by
  simp only[SP];rcases aSa.1 h with h1|h1
  .cases h1;omega
  have:=aBf h1;omega
def ZC: ∀{m:pN}{n o:Nat},yB m n=some o->(n,o)∈m
 |[],_,_,h=>by cases h
 |(a,b)::m,n,o,h=>by
  simp only[yB] at h;split at h
  .rename_i e;subst e;simp only[aRV] at h;subst h;exact aSf
  exact aSb _ (ZC h)
def ZD {B:Nat}{A:Nat->Nat->Prop}{L:List qB}{g0 g:Gh}{w0 w:pT}{s:St}{a:Act}(h:tZ B g w s a) (hg:sU A L g0 w0 g w s.H) (hnp:s.np=L.length) (k:vI) (hk:vT s.np k.ids=true):
  tZ B (tN g s.np k.ids) w (s.keep k) a/\sU A L g0 w0 (tN g s.np k.ids) w (s.keep k).H/\(s.keep k).np=L.length/\(s.keep k).N=s.N:=by
 unfold St.keep;rw[hk];refine⟨⟨fun t=>?_,⟨fun i b hb=>?_,fun i j bi bj b o hij h1 h2 o1 o2=>?_,h.heap.sl,h.heap.tab.1,fun i b bb oo hb ho=>by
   obtain⟨o,h1,rfl⟩:=G3 hb;obtain⟨c1,e1,o1'⟩:=(IX hk h1 fun c hc=>h.heap.blk o c hc).2 bb oo ho;exact h.heap.tab.2 o c1 bb oo e1 o1'⟩,h.size,fun i hi=>?_,h.def_,Nat.le_max_left _ _⟩,⟨hg.shut,hg.fr,fun i blk b o hb ho=>?_,fun i p hi hp=>?_,fun i hi=>?_,fun i u y us hi hb=>?_,fun i n u hi hu=>(by
   show (if i<s.np then g.cur i n else _)=_;rw[aRZ pI];exact hg.cur i n u hi hu)⟩,hnp,rfl⟩
 .rcases aBe (m:=k.ids) (env:=s.env) k.slots t with e|e
  .exact⟨by rw[show lk (NQ s k true).env t=_ from e];trivial,by rw[show lk (NQ s k true).env t=_ from e];trivial⟩
  have:=TO hk (h.env t);rw[show lk (NQ s k true).env t=_ from e];exact this
 .obtain⟨o,h1,rfl⟩:=G3 hb;exact(IX hk h1 fun c hc=>h.heap.blk o c hc).1
 .obtain⟨p,k1,rfl⟩:=G3 h1;obtain⟨q,k2,rfl⟩:=G3 h2;obtain⟨c1,e1,o1'⟩:=(IX hk k1 fun c hc=>h.heap.blk p c hc).2 b o o1;obtain⟨c2,e2,o2'⟩:=(IX hk k2 fun c hc=>h.heap.blk q c hc).2 b o o2;refine h.heap.dis p q c1 c2 b o (fun e=>?_) e1 e2 o1' o2';subst e;have inj: ∀{m:pN},vT s.np m=true->∀{i j o:Nat},(i,o)∈m->(j,o)∈m->i=j:=by
   intro m
   induction m with
   |nil=>intro _ _ _ _ h;cases h
   |cons z m ih=>
    obtain⟨z1,z2⟩:=z;intro hk i j o h1 h2;simp only[vT,aSj,aSE] at hk;rcases aSa.1 h1 with h1|h1<;>rcases aSa.1 h2 with h2|h2
    .cases h1;cases h2;rfl
    .cases h1;exact absurd rfl (TN hk.1.2 _ _ h2).2
    .cases h2;exact absurd rfl (TN hk.1.2 _ _ h1).2
    exact ih hk.2 h1 h2
  exact hij (inj hk k1 k2)
 .have hi': ¬i<s.np:=by have:=aSL (Nat.le_max_left _ _) hi;omega
  have hold:yB k.ids i=none:=by
   cases ho:yB k.ids i with
   |none=>rfl
   |some o=>
    have:=aBf (ZC ho);have:=aSL (Nat.le_max_right _ _) hi;omega
  refine⟨?_,fun n=>?_⟩
  .show (if i<s.np then g.J i else(yB k.ids i).bind g.J)=none;rw[aR4 hi',hold];rfl
  show (if i<s.np then g.cur i n else(yB k.ids i).bind fun o=>g.cur o n)=none;rw[aR4 hi',hold];rfl
 .obtain⟨p,h1,rfl⟩:=G3 hb;obtain⟨c,e1,e2⟩:=(IX hk h1 fun c hc=>h.heap.blk p c hc).2 b o ho;exact hg.perm p c b o e1 e2
 .show (if i<s.np then g.J i else _)=_;rw[aRZ pI];exact hg.J i p hi hp
 .rcases hg.live i hi with⟨p,hp⟩ |⟨n,v,hv⟩
  .left;refine⟨p,?_⟩;show (if i<s.np then g.J i else _)=_;rw[aRZ pI];exact hp
  right;refine⟨n,v,?_⟩;show (if i<s.np then g.cur i n else _)=_;rw[aRZ pI];exact hv
 obtain⟨o,h1,h2⟩:=G3 hb;have ho:=(ZA hk h1).2 pI;subst ho;unfold xL at h2;split at h2
 .rename_i t x toks heq;split at h2
  .simp only[qB.cells.injEq] at h2;obtain⟨rfl,_⟩:=h2;exact hg.ty o u x toks hi heq
  cases hy:xK k.ids t x with
  |none=>rw[hy] at h2;cases h2
  |some y=>
   rw[hy] at h2;simp only[XT,qB.cells.injEq] at h2;obtain⟨rfl,_⟩:=h2;exact hg.ty o u x toks hi heq
 .cases h2
 .split at h2<;>cases h2
 .split at h2<;>cases h2
 .cases h2
 cases h2
def G4 {B:Nat}{A:Nat->Nat->Prop}{L:List qB}{g0 g:Gh}{w0 w:pT}{s:St}{a:Act}(h:tZ B g w s a) (hg:sU A L g0 w0 g w s.H) (hnp:s.np=L.length) (k:vI):
  ∃g',tZ B g' w (s.keep k) a/\sU A L g0 w0 g' w (s.keep k).H/\(s.keep k).np=L.length/\(s.keep k).N=s.N:=by
 unfold St.keep;cases hk:vT s.np k.ids with
 |false=>
  refine⟨g,⟨fun t=>⟨trivial,trivial⟩,⟨(fun i b h=>by cases h),(fun i j bi bj b o _ h=>by cases h),h.heap.sl,h.heap.tab.1,(fun i b bb oo h=>by cases h)⟩,h.size,h.nb,h.def_,h.np⟩,⟨hg.shut,hg.fr,(fun i blk b o h=>by cases h),hg.J,hg.live,(fun i u y us _ h=>by cases h),hg.cur⟩,hnp,rfl⟩
 |true=>
  have:=ZD h hg hnp k hk;unfold St.keep at this;rw[hk] at this;exact⟨_,this⟩
end Go.Proofs.YtcpbaddnmpeipaaGreatDoor.Vc
