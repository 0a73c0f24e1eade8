/- Packed by a program of mine (wip/tools/pack.py): the same texts with short names and few blanks. -/
import Derived.ChangeKeysEq
import Derived.Laws.BytesArg
import Derived.Laws.StructEq
import Derived.Lib.AppendStr
import Derived.MapKept
import Derived.RangeFuncLeaves
import Derived.RangeFuncNested
import Derived.WalkSpells
import Derived.Test.YtcpbaddnmpeipaaGreatDoorJ00
set_option linter.defProp false
set_option linter.unusedVariables false
set_option linter.unusedSimpArgs false
set_option linter.unusedSectionVars false
set_option maxRecDepth 100000
set_option maxHeartbeats 4000000
namespace Go.Proofs.YtcpbaddnmpeipaaGreatDoor.Vc
open Go.RowKit
def xR (g:Gh) (base:Nat) (e:qJ):Prop:= ∀i,i∈qB e.upd->base<=i->g.J i=none/\∀n,g.cur i n=none
section
variable {P:Program}{o:Oper}{a:Act}{g:Gh}{w:pN}{H:s5}{T:sI}(hT:wY P T) (hH:s9 g w H)
include hT hH
theorem aAt {x:Operand}(ho:o.op= .move x\/o.op= .assign x) {sx:pX}(hx:rF g w sx (a.eval x)) {base:Nat}{e:qJ}(hr:Y9 base (rO T o.type) sx=some e) (hf:xR g base e):rC P o a g w H e:=by
 have hrun:(execOp a.eval o).run P w= .ok (.value (a.eval x)) w:=by rcases ho with ho|ho<;>simp [execOp,ho]
 generalize hst:rO T o.type=ot at hr;unfold Y9 at hr;split at hr
 .cases hr;have hv:a.eval x= .slice none 0 0:=hx.1;have hfr:=(hf base (by simp [qB]) (aSE _)).2;refine rC.value (v:= .slice none 0 0) (by rw[hrun,hv]) (rE.row (v:= .slice none 0 0) (xs:=[]) hH rfl (World.ownsRow_nil w 0 _ _) rfl (fun m _=>hfr m) (fun u hu=>by rw[hfr] at hu;cases hu) (.inl ⟨rfl,rfl,rfl,aSE _,fun _ _ _=>rfl⟩) (fun _ _ _=>rfl) (fun b hb=>by cases hb) (fun b hb=>by cases hb) ⟨⟨by simp [Gh.tok],.inl ⟨rfl,rfl⟩⟩,trivial⟩)
 .cases hr;have hv:a.eval x= .slice none 0 0:=hx.1;refine rC.value (v:= .slice none 0 0) (by rw[hrun,hv]) (rE.nilTok hH rfl (hf base (by simp [qB]) (aSE _)).2)
 .cases hr
 cases hr;exact rC.value hrun (.pure hH hx)
theorem aJt {u:Ty}{y:List u.den}{k:pL}{v:pO}{cs:pJ}(h:CW g (.list u) y v k) (hc:cs=[v]):G3 g (.list u) y cs (xI k 0):=by
 intro q kk hm;cases k with
 |none=>simp [xI] at hm
 |some k=>
  simp only[xI,aSC,aSP] at hm;obtain⟨rfl,rfl⟩:=hm;exact⟨u,y,v,by unfold qT;simp [tZ],by rw[hc];rfl,h⟩
omit hT hH in
theorem a0i {w:pN}: ∀(ls:List (Nat×TypeId×Nat)) (i:Nat) (g:Gh) (H:s5),s9 g w H->(∀j,i<=j->j<i+ls.length->∀n,g.cur j n=none)->
  ∃g1,rE g w H ⟨[],(.any,none),DC ls i,[]⟩ g1 w undef/\g1.J=g.J/\(∀o k,(o,k)∈C7 ls i->g1.cur k 0=some (.slice none 0 0))/\(∀k,k<i->g1.cur k=g.cur k)
 |[],i,g,H,hH,_=>⟨g,.pure hH ⟨trivial,trivial⟩,rfl,fun _ _ h=>by simp [C7] at h,fun _ _=>rfl⟩
 |(o,e,c)::r,i,g,H,hH,hf=>by
  have e1:=rE.nilTok (side:=[]) (d:= .val (.list .bool) []) (rds:=[]) (base:=i) (e:=e) (c:=c) (u:= .bool) hH rfl (hf i (aSE _) pE);have hc1: ∀k n,k≠i->(g.tok i 0 (.slice none 0 0)).cur k n=g.cur k n:=fun k n hk=>by
   show (if k=i/\n=0 then _ else _)=_;rw[aSl (fun h=>hk h.1)]
  obtain⟨g1,k1,k2,k3,k4⟩:=a0i r (i+1) (g.tok i 0 (.slice none 0 0)) (qS [(i,pW.grow e c 0)] H) e1.heap (fun j h1 h2 n=>by rw[hc1 j n pC];exact hf j pC (by simp only[aSq];omega) n);refine⟨g1,e1.trans k1,k2.trans rfl,fun o' k hm=>?_,fun k hk=>?_⟩
  .simp only[C7,aSx,aSP] at hm;rcases hm with⟨rfl,rfl⟩ |hm
   .rw[k4 _ pC];show (if k=k/\0=0 then _ else _)=_;simp
   exact k3 o' k hm
  rw[k4 k pC];funext n;exact hc1 k n pC
omit hT hH in
theorem a0j: ∀{ls:List (Nat×TypeId×Nat)}{i o k:Nat},(o,k)∈C7 ls i->∃q∈ls,q.1=o
 |[],_,_,_,h=>by simp [C7] at h
 |(o',e,c)::r,i,o,k,h=>by
  simp only[C7,aSx,aSP] at h;rcases h with⟨h1,_⟩ |h
  .exact⟨(o',e,c),by simp,h1.symm⟩
  obtain⟨q,h1,h2⟩:=a0j h;exact⟨q,by simp [h1],h2⟩
omit hT hH in
theorem a0k {t:Ty}: ∀{ls:List (Nat×TypeId×Nat)},EO t ls=true->∀q∈ls,EN t q.1=true
 |[],_,_,h=>by cases h
 |(o,e,c)::r,h,q,hq=>by
  simp only[EO,aSB] at h;rcases aSx.1 hq with rfl|hq
  .exact h.1
  exact a0k h.2 q hq
omit hT hH in
theorem Q9: ∀(ls:List (Nat×TypeId×Nat)) (i j:Nat),j∈qB (DC ls i)↔i<=j/\j<i+ls.length
 |[],i,j=>by simp only[DC,qB,aTK,aSG,false_iff];omega
 |(o,e,c)::r,i,j=>by
  simp only[DC,CD,Q9 r (i+1) j,qB,aSC,aSq];omega
omit hT hH in
theorem a0l {w:pN}: ∀(R:List (Nat×Nat×Ty)) (i:Nat) (g:Gh) (H:s5),s9 g w H->(∀j,i<=j->j<i+R.length->∀n,g.cur j n=none)->
  ∃g1,rE g w H ⟨[],(.any,none),EP R i,[]⟩ g1 w undef/\g1.J=g.J/\(∀j,j<R.length->g1.cur (i+j) 0=some (.slice none 0 0))/\(∀k,k<i->g1.cur k=g.cur k)
 |[],i,g,H,hH,_=>⟨g,.pure hH ⟨trivial,trivial⟩,rfl,fun _ h=>by simp at h,fun _ _=>rfl⟩
 |(o,e,u)::r,i,g,H,hH,hf=>by
  have hfr:=hf i (aSE _) pE;have e1:=rE.row (side:=[]) (rds:=[]) (k:=i) (e:=e) (t:=u) (l:=[]) (n:=0) (s:=(.any,none)) (val:=undef) (v:= .slice none 0 0) (xs:=[]) hH rfl (World.ownsRow_nil w 0 _ _) rfl (fun m _=>hfr m) (fun u hu=>by rw[hfr] at hu;cases hu) (.inl ⟨rfl,rfl,rfl,aSE _,fun _ _ _=>rfl⟩) (fun _ _ _=>rfl) (fun b hb=>by cases hb) (fun b hb=>by cases hb) ⟨trivial,trivial⟩;have hc1: ∀k n,k≠i->(g.tok i 0 (.slice none 0 0)).cur k n=g.cur k n:=fun k n hk=>by
   show (if k=i/\n=0 then _ else _)=_;rw[aSl (fun h=>hk h.1)]
  obtain⟨g1,k1,k2,k3,k4⟩:=a0l r (i+1) (g.tok i 0 (.slice none 0 0)) (qS [(i,pW.row e u [] 0)] H) e1.heap (fun j h1 h2 n=>by rw[hc1 j n pC];exact hf j pC (by simp only[aSq];omega) n);refine⟨g1,e1.trans k1,k2.trans rfl,fun j hj=>?_,fun k hk=>?_⟩
  .cases j with
   |zero=>
    rw[aTu,k4 _ pC];show (if i=i/\0=0 then _ else _)=_;simp
   |succ j=>
    have:=k3 j (by simpa using hj);rwa [show i+1+j=i+(j+1) by omega] at this
  rw[k4 k pC];funext n;exact hc1 k n pC
omit hT hH in
theorem UY: ∀(R:List (Nat×Nat×Ty)) (i j:Nat),j∈qB (EP R i)↔i<=j/\j<i+R.length
 |[],i,j=>by simp only[EP,qB,aTK,aSG,false_iff];omega
 |(o,e,c)::r,i,j=>by
  simp only[EP,CD,UY r (i+1) j,qB,aSC,aSq];omega
omit hT hH in
theorem a0m {α:Type}: ∀l:List α,PI l=l.length
 |[]=>rfl
 |_::l=>by simp only[PI,a0m l,aSq]
omit hT hH in
theorem aAu {g:Gh}{w:pN}: ∀{t:Ty}{x:t.den}{cs:pJ}{o:Nat},Rd g w t x cs->∀q∈zJ t x o,o<=q.1/\cs[q.1-o]? =some (.slice none 0 0):=by
 intro t
 induction t with
 |pair a b iha ihb=>
  intro x cs o r q hq;obtain⟨c1,c2,rfl,r1,r2⟩:=r;simp only[zJ,G4] at hq;have hl:=sL r1;rcases hq with hq|hq
  .obtain⟨h1,h2⟩:=iha r1 q hq;exact⟨h1,by rw[aSD (aSz.1 h2).1];exact h2⟩
  .obtain⟨h1,h2⟩:=ihb r2 q hq;refine⟨pC,?_⟩;rw[aSt pC,hl,show q.1-o-a.cells=q.1- (o+a.cells) by omega];exact h2
 |rl e u=>
  intro x cs o r q hq;cases x with
  |none=>
   simp only[zJ,YB,aSC] at hq;subst hq;refine⟨aSE _,?_⟩;rw[show cs=[.slice none 0 0] from r];simp
  |some z=>simp [zJ,YB] at hq
 |_=>intro x cs o r q hq;simp [zJ] at hq
omit hT hH in
theorem aJu {g:Gh}{w:pN}: ∀{t:Ty}{x:t.den}{cs:pJ}{o:Nat},Rd g w t x cs->∀q∈FW t x o,o<=q/\cs[q-o]? =some (.pointer none):=by
 intro t
 induction t with
 |pair a b iha ihb=>
  intro x cs o r q hq;obtain⟨c1,c2,rfl,r1,r2⟩:=r;simp only[FW,G4] at hq;have hl:=sL r1;rcases hq with hq|hq
  .obtain⟨h1,h2⟩:=iha r1 q hq;exact⟨h1,by rw[aSD (aSz.1 h2).1];exact h2⟩
  .obtain⟨h1,h2⟩:=ihb r2 q hq;refine⟨pC,?_⟩;rw[aSt pC,hl,show q-o-a.cells=q- (o+a.cells) by omega];exact h2
 |mref=>
  intro x cs o r q hq;cases x with
  |none=>
   simp only[FW,YC,aSC] at hq;subst hq;refine⟨aSE _,?_⟩;rw[show cs=[.pointer none] from r];simp
  |some z=>simp [FW,YC] at hq
 |_=>intro x cs o r q hq;simp [FW] at hq
omit hT hH in
theorem a0n {g:Gh}{w:pN}{t u:Ty}{x z:t.den}{y:u.den}{cs:pJ}{o:Nat}{v:pO}(h:sD u y t x o=some z) (hy:Rd g w u y [v]) (hR:Rd g w t x cs) (hv:cs[o]? =some v):Rd g w t z cs:=by
 obtain⟨c1,c2,c3,rfl,rfl,h2,h3⟩:=Q3 hy hR h;have hu:=sL hy;simp only[aTw] at hu;rw[<-hu] at h2;obtain⟨v',rfl⟩:=aTt.1 h2;have:(c1++[v']++c3)[c1.length]? =some v':=by simp
 rw[this] at hv;obtain rfl:=aSo hv;exact h3
omit hT hH in
theorem a0o {g:Gh}{w:pN}{t:Ty}{cs:pJ}: ∀{R:List (Nat×Nat×Ty)}{i:Nat}{x z:t.den},BG t i R (some x)=some z->Rd g w t x cs->(∀q∈R,cs[q.1]? =some (.slice none 0 0))->(∀j,j<R.length->g.cur (i+j) 0=some (.slice none 0 0))->Rd g w t z cs
 |[],i,x,z,h,hR,_,_=>by simp only[BG,aSk] at h;exact h▸hR
 |(o,e,u)::r,i,x,z,h,hR,hc,hg=>by
  simp only[BG] at h;cases hs:sD (.rl e u) (some (i,0)) t x o with
  |none=>rw[hs] at h;cases r<;>simp [BG] at h
  |some x'=>
   rw[hs] at h;refine a0o h (a0n (v:= .slice none 0 0) hs ⟨_,by simpa using hg 0 pE,rfl,.inl ⟨rfl,rfl⟩⟩ hR (hc _ aSJ)) (fun q hq=>hc q (aSy _ hq)) (fun j hj=>?_);have:=hg (j+1) (by simpa using hj);rwa [show i+(j+1)=i+1+j by omega] at this
omit hT hH in
theorem aAv {g:Gh}{w:pN}{t:Ty}{cs:pJ}{i:Nat}{p:Pl}(hp:g.J i=some p) (hp2:p.2=0): ∀{M:pM}{x z:t.den},HS t i M (some x)=some z->Rd g w t x cs->(∀q∈M,cs[q]? =some (.pointer none)/\ZN p.3 q)->Rd g w t z cs
 |[],x,z,h,hR,_=>by simp only[HS,aSk] at h;exact h▸hR
 |q::r,x,z,h,hR,hc=>by
  simp only[HS] at h;cases hs:sD .mref (some (i,q)) t x q with
  |none=>rw[hs] at h;cases r<;>simp [HS] at h
  |some x'=>
   rw[hs] at h;exact aAv hp hp2 h (a0n (v:= .pointer none) hs ⟨p,hp,by rw[hp2,aSS];exact(hc _ aSJ).2,.inl rfl⟩ hR (hc _ aSJ).1) (fun q hq=>hc q (aSy _ hq))
omit hT hH in
theorem UZ {k:Nat}: ∀{ls:List (Nat×TypeId×Nat)}{q:Nat×TypeId×Nat},q∈C8 k ls->q.1+1≠k
 |[],_,h=>by cases h
 |(o,e,c)::r,q,h=>by
  simp only[C8] at h;split at h
  .exact UZ h
  rename_i hne;rcases aSx.1 h with rfl|h
  .exact hne
  exact UZ h
omit hT in
theorem a0p {t:Ty}{y:t.den}{ls:List (Nat×TypeId×Nat)}{base:Nat}{e:qJ}{cs:pJ}{el:TypeId}(hr:PJ base el t y ls (EO t ls)=some e) (hf:xR g base e) (hR:Rd g w t y cs) (hn: ∀q∈ls,∃k,xP k t 0 cs/\q.1+1≠k):
  ∃g',rE g w H e g' (w.alloc (.cells cs.toArray el)) (.pointer (some ⟨w.heap.size,0,none⟩)):=by
 cases hl:EO t ls with
 |false=>rw[hl] at hr;cases hr
 |true=>
  rw[hl] at hr;simp only[PJ,a0m] at hr;have cR:=fun q hq=>aAu (o:=0) hR q hq;have cM: ∀q∈T7 el t y,cs[q]? =some (.pointer none)/\ZN (some (el,cs.length)) q:=by
   intro q hq;unfold T7 at hq;split at hq
   .rename_i hb;have h0:=fun q hq=>aJu (o:=0) hR q hq;have hl:=sL hR;generalize FW t y 0=M at hq h0;rw[<-hl] at hq;unfold a9r at hq;split at hq
    .rename_i h2;simp only[aSC] at hq;subst hq;exact⟨by simpa using(h0 0 pE).2,rfl,el,hb,by rw[h2]⟩
    cases hq
   cases hq
  generalize zJ t y 0=R at hr cR;generalize T7 el t y=M at hr cM;cases hz1:BG t (base+1+ls.length) R (some y) with
  |none=>
   rw[hz1] at hr;have:HS t base M none=none:=by cases M<;>rfl
   rw[this] at hr;cases hr
  |some z1=>
   rw[hz1] at hr;cases hz2:HS t base M (some z1) with
   |none=>rw[hz2] at hr;cases hr
   |some z=>
    rw[hz2] at hr;simp only[a9s,a0m] at hr;obtain rfl:=(aSo hr);have hfr: ∀j,base+1<=j->j<base+1+ls.length+R.length->g.J j=none/\∀n,g.cur j n=none:=fun j h1 h2=>hf j (by
     simp only[qB,aSx];right;rw[CD];by_cases h3:j<base+1+ls.length
     .exact .inr ((Q9 ls (base+1) j).2 ⟨h1,h3⟩)
     exact .inl ((UY R (base+1+ls.length) j).2 ⟨pC,h2⟩)) pC
    have hf0:=hf base (by simp [qB]) (aSE _);obtain⟨g1,k1,k2,k3,k4⟩:=a0i ls (base+1) g H hH (fun j h1 h2=>(hfr j h1 pC).2);have hfr1: ∀j,base+1+ls.length<=j->j<base+1+ls.length+R.length->∀n,g1.cur j n=none:=by
     intro j h1 h2 n;have:=(k1.gho j (by simp only;rw[Q9];omega)).2;rw[this];exact(hfr j pC h2).2 n
    obtain⟨g2,m1,m2,m3,m4⟩:=a0l R (base+1+ls.length) g1 _ k1.heap hfr1;have hJ:(g2.var base w.heap.size (some (el,cs.length))).J base=some ⟨w.heap.size,0,some (el,cs.length)⟩:=by simp [Gh.var]
    have hle:Le g w (g2.var base w.heap.size (some (el,cs.length))) w:=by
     refine((k1.le.trans m1.le).trans ⟨fun _ _ h=>h,fun _ _ _=>rfl,fun i p h=>?_,fun _ _ _ h=>h⟩);show (if i=base then _ else _)=_;rw[aSl (fun e1=>by rw[e1,m2,k2,hf0.1] at h;cases h)];exact h
    have hRz:Rd (g2.var base w.heap.size (some (el,cs.length))) w t z cs:=aAv hJ rfl hz2 (a0o hz1 (wA hle hR) (fun q hq=>by simpa using(cR q hq).2) (fun j hj=>m3 j hj)) cM;have htk:G3 g2 t z cs (C7 ls (base+1)):=by
     intro o k hm;obtain⟨q,hq,rfl⟩:=a0j hm;obtain⟨kx,hx1,hx2⟩:=hn q hq;obtain⟨u,h1,h2⟩:=aAd hx1 hRz (a0k hl q hq) pC;exact⟨u,[],_,h1,h2,m1.le.cur _ _ _ (k3 _ _ hm)⟩
    have e3:=rE.newVarJ (side:=[]) (rds:=[]) (base:=base) (toks:=C7 ls (base+1)) (e:=el) m1.heap hRz htk (by rw[m2,k2];exact hf0.1) (by rw[m4 base pC,k4 base pC];exact funext hf0.2);have e4:=rE.trans (side:=[]) (rds:=[]) k1 m1;exact⟨_,rE.trans (side:=[]) (rds:=[]) e4 (e3.congrH (H':=qS (qS (EP R (base+1+ls.length)) (DC ls (base+1))) H) (by simp only[KP]))⟩
theorem a0q {t:Ty}{y:t.den}{k:pL}{v:pO}(h:rF g w (.val t y,k) v):sW g w t y v/\CW g t y v k:=by
 refine⟨h.1,?_⟩;cases k with
 |none=>trivial
 |some k=>exact h.2
theorem aJv {t:TypeId}{x:Operand}(ho:o.op= .box t x) {sx:pX}(hx:rF g w sx (a.eval x)) {base:Nat}{e:qJ}(hr:YD base t (rO T t) sx=some e) (hf:xR g base e):rC P o a g w H e:=by
 generalize hst:rO T t=ot at hr;have hrun:(execOp a.eval o).run P w= .ok (.value (.pointer (some ⟨w.heap.size,0,none⟩))) (w.alloc (.cells (a.eval x).cells.toList.toArray t)):=by
  unfold execOp;rw[ho];simp only[Instr.box,Go.newVar,newRow,aSw,run_newObj,aSr,aSI,aTW];rfl
 have one: ∀{u:Ty}{y:u.den},sW g w u y (a.eval x)->u.isRow=false->(a.eval x).cells.toList=[a.eval x]:=fun hv hrow=>by
  have h1:=zY (wZ hrow hv) _ (aSC.2 rfl);cases h:a.eval x<;>first|rfl|(rw[h] at h1;simp [Value.oneCell'] at h1)
 unfold YD at hr;split at hr
 .rename_i ti u y k;split at hr
  .obtain⟨hv,hk⟩:=a0q hT hH hx;have hR:=EV hv;unfold a9t at hr;split at hr
   .rename_i a' b' y' k' _;have hn:xP k' (.pair a' b') 0 (a.eval x).cells.toList:=hk;obtain⟨g',h⟩:=a0p (el:=t) hH hr hf hR (fun q hq=>⟨k',hn,UZ hq⟩);exact rC.value hrun h
   .rename_i u' y' k';cases hr;have hfr:=hf base (by simp [qB]) (aSE _);exact rC.value hrun (rE.newVar hH hR (aJt hT hH hk (one hv rfl)) hfr.1 (funext hfr.2))
   cases hr;have hfr:=hf base (by simp [qB]) (aSE _);exact rC.value hrun (rE.newVar hH hR (fun q k hm=>by cases hm) hfr.1 (funext hfr.2))
  cases hr
 cases hr
theorem aAw {t:TypeId}(run: ∀ti,rO T t=some ti->(execOp a.eval o).run P w= .ok (.value (.pointer (some ⟨w.heap.size,0,none⟩))) (w.alloc (.cells (u1 ti.ty).toArray t))) {base:Nat}{e:qJ}(hr:PL base t (rO T t)=some e) (hf:xR g base e):rC P o a g w H e:=by
 generalize hst:rO T t=ot at hr;unfold PL at hr;split at hr
 .rename_i u el by' ar ls_;cases hr;have hf0:=hf base (by simp [qB]) (aSE _);have hf1:=hf (base+1) (by simp [qB]) pC;have hty:=sP hT hst;have e1:=rE.nilTok (side:=[]) (d:= .val (.list u) []) (rds:=[]) (base:=base+1) (e:=el) (c:=u.cells) (u:=u) hH rfl hf1.2;have hH1:=e1.heap;have htk:G3 (g.tok (base+1) 0 (.slice none 0 0)) (.list u) [] [.slice none 0 0] [(0,base+1)]:=by
   intro q kk hm;simp only[aSC,aSP] at hm;obtain⟨rfl,rfl⟩:=hm;exact⟨u,[],.slice none 0 0,by unfold qT;simp [tZ],rfl,by simp [Gh.tok]⟩
  have e2:=rE.newVar (side:=[]) (rds:=[]) (base:=base) (toks:=[(0,base+1)]) (e:=t) hH1 (DF (g.tok (base+1) 0 (.slice none 0 0)) w (.list u)) htk hf0.1 (by
   funext n;show (if base=base+1/\n=0 then _ else _)=_;rw[aSl pC];exact hf0.2 n)
  exact rC.value (run _ hst) (rE.trans (side:=[]) (rds:=[]) e1 e2)
 .rename_i ti hno;obtain⟨g',h⟩:=a0p (el:=t) hH hr hf (DF g w ti.ty) (fun q _=>⟨0,UR _ _,pC⟩);exact rC.value (run _ hst) h
 cases hr
theorem aJw {t:TypeId}(ho:o.op= .alloc t) {base:Nat}{e:qJ}(hr:PL base t (rO T t)=some e) (hf:xR g base e):rC P o a g w H e:=by
 have run: ∀ti,rO T t=some ti->(execOp a.eval o).run P w= .ok (.value (.pointer (some ⟨w.heap.size,0,none⟩))) (w.alloc (.cells (u1 ti.ty).toArray t)):=by
  intro ti hti;obtain⟨i,hi,hsz,hz⟩:=DG (sP hT hti);have hc:(xQ ti.ty).cells=(u1 ti.ty).toArray:=by
   have:=EV (KQ g w ti.ty);unfold xQ;cases h:ti.ty<;>simp [Ty.isRow,u1,Value.cells]
  unfold execOp;rw[ho];simp only[Instr.alloc,zeroValue,typeInfo,Go.newVar,newRow,aSw,aTf,hi,hz,hc,run_newObj,aSr,aSI];rfl
 exact aAw hT hH run hr hf
theorem aJx {t:TypeId}{x:Operand}(ho:o.op= .box t x) {sx:pX}(hx:rF g w sx (a.eval x)) (hfix: ∀ti:Option TI,rF g w (MO ti sx) (a.eval x)) {base:Nat}{e:qJ}(hr:YE base t (rO T t) sx=some e) (hf:xR g base e):rC P o a g w H e:=by
 generalize hst:rO T t=ot at hr;unfold YE at hr;split at hr
 .rename_i u el by' ls_ k;obtain⟨g',h⟩:=a0p (el:=t) hH hr hf (show Rd g w (.rl el u) none [.slice none 0 0] from rfl) (fun q hq=>by cases hq);have hv:a.eval x= .slice none 0 0:=hx.1;refine rC.value ?_ h;unfold execOp;rw[ho];simp only[Instr.box,Go.newVar,newRow,aSw,run_newObj,aSr,aSI,hv];rfl
 .rename_i u el by' ar ls_ k;rw[<-hst] at hr;refine aAw hT hH (fun ti hti=>?_) hr hf;rw[hst] at hti;cases hti;have hv:a.eval x= .slice none 0 0:=hx.1;unfold execOp;rw[ho];simp only[Instr.box,Go.newVar,newRow,aSw,run_newObj,aSr,aSI,hv];rfl
 rw[<-hst] at hr;exact aJv hT hH ho (hfix _) hr hf
omit hT hH in
theorem aJy {t:Ty}{y:t.den}{k:pL}{v:pO}(h:CW g t y v k):CW g t y v (EK t k):=by
 cases t with
 |list u=>exact h
 |_=>trivial
omit hT hH in
theorem aAx {off:Nat}: ∀{l:pH}{o k:Nat},(o,k)∈MX off l->∃q,o=off+q/\(q,k)∈l
 |[],_,_,h=>by cases h
 |(q,k')::r,o,k,h=>by
  simp only[MX,aSx,aSP] at h;rcases h with⟨rfl,rfl⟩ |h
  .exact⟨q,rfl,aSJ⟩
  obtain⟨q',h1,h2⟩:=aAx h;exact⟨q',h1,aSy _ h2⟩
omit hT hH in
theorem aAy {v t:Ty}{y:t.den}: ∀{u:Ty}{x z:u.den}{o q:Nat}{l:(Ty.list v).den},sD t y u x o=some z->qT (.list v) t y q=some l->q<t.cells->qT (.list v) u z (o+q)=some l:=by
 intro u
 induction u with
 |pair a b iha ihb=>
  intro x z o q l h g hq;by_cases hu:o=0/\t= .pair a b
  .obtain⟨rfl,rfl⟩:=hu;unfold sD at h;rw[aUe rfl] at h;simp only[tZ,aSk] at h;subst h;simpa using g
  .have keyh:(if o<a.cells then(sD t y a x.1 o).map (fun q=>(q,x.2)) else(sD t y b x.2 (o-a.cells)).map (fun q=>(x.1,q)))=some z:=by
    cases o with
    |zero=>
     unfold sD at h;rw[aTI (fun e=>hu ⟨rfl,e⟩)] at h;simpa using h
    |succ o=>simpa[sD] using h
   have keyg: ∀m,qT (.list v) (.pair a b) z m=(if m<a.cells then qT (.list v) a z.1 m else qT (.list v) b z.2 (m-a.cells)):=by
    intro m;cases m with
    |zero=>
     conv=>lhs;unfold qT
     rw[aTI (by intro e;cases e),Nat.zero_sub]
    |succ m=>simp [qT]
   rw[keyg];by_cases ho:o<a.cells
   .rw[aSj ho] at keyh;obtain⟨z',hz',rfl⟩:=aSA.1 keyh;have hfit:o+t.cells<=a.cells:=by
     have: ∀{u:Ty}{x z:u.den}{o:Nat},sD t y u x o=some z->o+t.cells<=u.cells:=by
      intro u
      induction u with
      |pair a b iha ihb=>
       intro x z o h;have key: ∀o,(if o<a.cells then(sD t y a x.1 o).map (fun q=>(q,x.2)) else(sD t y b x.2 (o-a.cells)).map (fun q=>(x.1,q)))=some z->o+t.cells<=a.cells+b.cells:=by
        intro o h;by_cases ho:o<a.cells
        .rw[aSj ho] at h;obtain⟨z',hz',_⟩:=aSA.1 h;have:=iha hz';omega
        rw[aSl ho] at h;obtain⟨z',hz',_⟩:=aSA.1 h;have:=ihb hz';omega
       cases o with
       |zero=>
        unfold sD at h;split at h
        .rename_i e;subst e;simp
        .exact key 0 (by simpa using h)
       |succ o=>exact key (o+1) (by simpa[sD] using h)
      |_=>
       intro x z o h;cases o with
       |zero=>
        unfold sD at h;split at h
        .rename_i e;subst e;simp
        .simp at h
       |succ o=>simp [sD] at h
     exact this hz'
    rw[aSj pC];exact iha hz' g hq
   .rw[aSl ho] at keyh;obtain⟨z',hz',rfl⟩:=aSA.1 keyh;rw[aSl pC,show o+q-a.cells=o-a.cells+q from by omega];exact ihb hz' g hq
 |_=>
  intro x z o q l h g hq;cases o with
  |zero=>
   unfold sD at h;split at h
   .rename_i e;subst e;simp only[tZ,aSk] at h
    try subst h
    simpa using g
   .simp at h
  |succ o=>simp [sD] at h
omit hT hH in
theorem aAz {v:Ty}: ∀{t:Ty}{x:t.den}{q:Nat}{l:(Ty.list v).den},qT (.list v) t x q=some l->q<t.cells:=by
 intro t
 induction t with
 |pair s t ihs iht=>
  intro x q l g;have key: ∀q,(if q<s.cells then qT (.list v) s x.1 q else qT (.list v) t x.2 (q-s.cells))=some l->q<s.cells+t.cells:=by
   intro q g;by_cases h:q<s.cells
   .omega
   rw[aSl h] at g;have:=iht g;omega
  cases q with
  |zero=>
   unfold qT at g;rw[aTI (by intro e;cases e)] at g;exact key 0 (by simpa using g)
  |succ q=>exact key (q+1) (by simpa[qT] using g)
 |unit=>
  intro x q l g;cases q with
  |zero=>unfold qT at g;rw[aTI (by intro e;cases e)] at g;cases g
  |succ q=>simp [qT] at g
 |_=>
  intro x q l g;cases q with
  |zero=>simp [Ty.cells]
  |succ q=>simp [qT] at g
omit hT in
theorem rE.retok {i:Nat}{u:Ty}{z:u.den}{toks nt:pH}{p:Pl}(hb:pZ H i=some (.cells u z toks)) (hp:g.J i=some p)
  (hn: ∀cs,Rd g w u z cs->w.rangeAt p.1 p.2 cs->G3 g u z cs nt):rE g w H ⟨[],(.any,none),[(i,.cells u z (qS nt toks))],[]⟩ g w undef:=by
 obtain⟨p',cs,hp',hR,hra,hth,hns,htk⟩:=hH.blk i _ hb;rw[hp] at hp';obtain rfl:=aSo hp';have get: ∀j blk,j∈qB [(i,pW.cells u z (qS nt toks))]->pZ (qS [(i,pW.cells u z (qS nt toks))] H) j=some blk->j=i/\blk= .cells u z (qS nt toks):=by
  intro j blk hi hg;simp only[qB,aSC] at hi;subst hi;simp only[qS,pZ,aTQ,aSk] at hg;exact⟨rfl,hg.symm⟩
 have perm: ∀j blk b o,j∈qB [(i,pW.cells u z (qS nt toks))]->pZ (qS [(i,pW.cells u z (qS nt toks))] H) j=some blk->s8 g j blk b o->w.heap.size<=b\/sK g H (qB [(i,pW.cells u z (qS nt toks))]) b o:=by
  intro j blk b o hi hg ho;obtain⟨rfl,rfl⟩:=get j blk hi hg;exact .inr ⟨j,_,hi,hb,ho⟩
 have le:Le g w g w:=⟨fun _ _ h=>h,fun _ _ _=>rfl,fun _ _ h=>h,fun _ _ _ h=>h⟩;have fr:Fr (sK g H (qB [(i,pW.cells u z (qS nt toks))])) w w g.S g.S:=⟨rfl,rfl,rfl,aSE _,fun _ _ _=>rfl,fun _ _ _ _=>⟨rfl,rfl⟩,fun _ _ h=> .inl h,fun _ _ h=> .inl h⟩;refine⟨le,⟨trivial,trivial⟩,hH.upd le fr perm (fun _ _=>⟨rfl,rfl⟩) (fun j blk hi hg=>?_) (fun i j bi bj b o hi hj hij hgi hgj _ _=>hij ((get i bi hi hgi).1.trans (get j bj hj hgj).1.symm)) (fun b o h=>hH.sl b o h),fr,perm,fun _ _=>⟨rfl,rfl⟩,fun j u' y' us h=>?_⟩
 .obtain⟨rfl,rfl⟩:=get j blk hi hg;refine⟨p,cs,hp,hR,hra,hth,hns,fun q kk hm=>?_⟩;rcases(G4.1 hm) with hm|hm
  .exact hn cs hR hra q kk hm
  exact htk q kk hm
 simp only[qS,pZ] at h;split at h
 .rename_i e1;subst e1;simp only[aSk,pW.cells.injEq] at h;obtain⟨rfl,_⟩:=h;exact .inl ⟨z,toks,hb⟩
 exact .inl ⟨y',us,h⟩
omit hT hH in
theorem aJz {g:Gh}{t a b:Ty}{y:t.den}{v:pO}{k:pL}(h:k.isSome=true) (ht:t= .pair a b) (hk:CW g t y v k): ∃m,k=some m/\xP m t 0 v.cells.toList:=by
 subst ht;cases k with
 |none=>cases h
 |some k=>exact⟨k,rfl,hk⟩
omit hT hH in
theorem aJA {base i off:Nat}{b:Option pW}{ls:List (Nat×TypeId×Nat)}{t:Ty}{y:t.den}{k:pL}{e:qJ}(h:FY base i off b ls t y k=some e):
  (∃(s:Ty) (x:s.den) (toks:pH) (z:s.den),b=some (.cells s x toks)/\sD t y s x off=some z/\k.isSome=true/\(∃a c,t= .pair a c)/\∃m,k=some m/\EO t (C8 m ls)=true/\
   e=⟨[],(.any,none),(i,.cells s z (qS (MX off (C7 (C8 m ls) base)) (t6 toks off t.cells)))::qS (DC (C8 m ls) base) [(i,.cells s z (t6 toks off t.cells))],[i]⟩)\/TJ t y k i off b=some e:=by
 unfold FY at h;split at h
 .rename_i q r a c y' k';cases hok:EO (.pair a c) (C8 k' (q::r)) with
  |false=>rw[hok] at h;unfold TK at h;split at h<;>first|cases h|(rename_i h2;cases h2)
  |true=>
   rw[hok] at h;unfold TK at h;split at h
   .rename_i s x toks _;cases hset:sD (.pair a c) y' s x off with
    |none=>rw[hset] at h;cases h
    |some z=>
     rw[hset] at h;exact .inl ⟨s,x,toks,z,rfl,hset,rfl,⟨a,c,rfl⟩,_,rfl,hok,(aSo h).symm⟩
   cases h
 exact .inr h
omit hT hH in
theorem aAA {i off k n el:Nat}{u v:Ty}{x:v.den}{ts:pH}{ls:List (Nat×TypeId×Nat)}{y:Option qJ}{e:qJ}(h:YX H i off k n el u v x ts ls y=some e):y=some e\/YW i (y9 el u (some (k,n)) v x off)=some e\/PQ i off k n u v x (t6 ts off 1) (pZ H k)=some e:=by
 cases y with
 |some r=>exact .inl h
 |none=>cases ls with
  |nil=>exact .inr (.inl h)
  |cons q r=>exact .inr (.inr h)
omit hT hH in
theorem aJB {v:Ty}{e:Nat}{u:Ty}{y:pK}: ∀{t:Ty}{x z:t.den}{o q:Nat}{l:(Ty.list v).den},sD (.rl e u) y t x o=some z->qT (.list v) t x q=some l->q≠o:=by
 intro t
 induction t with
 |pair a b iha ihb=>
  intro x z o q l h g;have keyh:(if o<a.cells then(sD (.rl e u) y a x.1 o).map (fun q=>(q,x.2)) else(sD (.rl e u) y b x.2 (o-a.cells)).map (fun q=>(x.1,q)))=some z:=by
   cases o with
   |zero=>
    unfold sD at h;rw[aTI (by intro e;cases e)] at h;simpa using h
   |succ o=>simpa[sD] using h
  have keyg:(if q<a.cells then qT (.list v) a x.1 q else qT (.list v) b x.2 (q-a.cells))=some l:=by
   cases q with
   |zero=>
    unfold qT at g;rw[aTI (by intro e;cases e)] at g;simpa using g
   |succ q=>simpa[qT] using g
  intro hqo;subst hqo;by_cases hq:q<a.cells
  .rw[aSj hq] at keyh keyg;obtain⟨z',hz',_⟩:=aSA.1 keyh;exact iha hz' keyg rfl
  .rw[aSl hq] at keyh keyg;obtain⟨z',hz',_⟩:=aSA.1 keyh;exact ihb hz' keyg rfl
 |rl e' u'=>
  intro x z o q l h g hqo;cases q with
  |zero=>
   unfold qT at g;split at g
   .rename_i e1;cases e1
   .cases g
  |succ q=>simp [qT] at g
 |_=>
  intro x z o q l h g hqo;cases o with
  |zero=>
   unfold sD at h;split at h
   .rename_i e1;cases e1
   .cases h
  |succ o=>simp [sD] at h
omit hT hH in
theorem aAB {n:Nat}: ∀{l:List (Nat×pW)},TM n l=true->∀j,j∈qB l->j<n
 |[],_,j,h=>by cases h
 |(i,b)::r,h,j,hj=>by
  simp only[TM] at h;split at h
  .simp only[qB,aSx] at hj;rcases hj with rfl|hj
   .assumption
   exact aAB h j hj
  cases h
omit hT in
theorem aAC {v:Ty}{t:Ty}: ∀{R:List (Nat×Nat×Ty)}{i:Nat}{x z:t.den}{q:Nat}{l:(Ty.list v).den},BG t i R (some x)=some z->qT (.list v) t x q=some l->qT (.list v) t z q=some l
 |[],i,x,z,q,l,h,g=>by simp only[BG,aSk] at h;exact h▸g
 |(o,e,u)::r,i,x,z,q,l,h,g=>by
  simp only[BG] at h;cases hs:sD (.rl e u) (some (i,0)) t x o with
  |none=>rw[hs] at h;cases r<;>simp [BG] at h
  |some x'=>
   rw[hs] at h;have hne:=aJB hs g;exact aAC h (UX hH hs g (fun⟨h1,h2⟩=>by simp only[Ty.cells] at h2;omega))
omit hT in
theorem rE.reread {i:Nat}{u:Ty}{z z2:u.den}{toks0 toks:pH}{p:Pl}(hb:pZ H i=some (.cells u z toks0)) (hp:g.J i=some p) (hsub: ∀x∈toks,x∈toks0)
  (hn: ∀cs,Rd g w u z cs->w.rangeAt p.1 p.2 cs->Rd g w u z2 cs) (hl: ∀(v:Ty) q (l:(Ty.list v).den),qT (.list v) u z q=some l->qT (.list v) u z2 q=some l):rE g w H ⟨[],(.any,none),[(i,.cells u z2 toks)],[]⟩ g w undef:=by
 obtain⟨p',cs,hp',hR,hra,hth,hns,htk⟩:=hH.blk i _ hb;rw[hp] at hp';obtain rfl:=aSo hp';have get: ∀j blk,j∈qB [(i,pW.cells u z2 toks)]->pZ (qS [(i,pW.cells u z2 toks)] H) j=some blk->j=i/\blk= .cells u z2 toks:=by
  intro j blk hi hg;simp only[qB,aSC] at hi;subst hi;simp only[qS,pZ,aTQ,aSk] at hg;exact⟨rfl,hg.symm⟩
 have perm: ∀j blk b o,j∈qB [(i,pW.cells u z2 toks)]->pZ (qS [(i,pW.cells u z2 toks)] H) j=some blk->s8 g j blk b o->w.heap.size<=b\/sK g H (qB [(i,pW.cells u z2 toks)]) b o:=by
  intro j blk b o hi hg ho;obtain⟨rfl,rfl⟩:=get j blk hi hg;exact .inr ⟨j,_,hi,hb,ho⟩
 have le:Le g w g w:=⟨fun _ _ h=>h,fun _ _ _=>rfl,fun _ _ h=>h,fun _ _ _ h=>h⟩;have fr:Fr (sK g H (qB [(i,pW.cells u z2 toks)])) w w g.S g.S:=⟨rfl,rfl,rfl,aSE _,fun _ _ _=>rfl,fun _ _ _ _=>⟨rfl,rfl⟩,fun _ _ h=> .inl h,fun _ _ h=> .inl h⟩;refine⟨le,⟨trivial,trivial⟩,hH.upd le fr perm (fun _ _=>⟨rfl,rfl⟩) (fun j blk hi hg=>?_) (fun i j bi bj b o hi hj hij hgi hgj _ _=>hij ((get i bi hi hgi).1.trans (get j bj hj hgj).1.symm)) (fun b o h=>hH.sl b o h),fr,perm,fun _ _=>⟨rfl,rfl⟩,fun j u' y' us h=>?_⟩
 .obtain⟨rfl,rfl⟩:=get j blk hi hg;refine⟨p,cs,hp,hn cs hR hra,hra,hth,hns,fun q kk hm=>?_⟩;obtain⟨v,l,vv,h1,h2,h3⟩:=htk q kk (hsub _ hm);exact⟨v,l,vv,hl v q l h1,h2,h3⟩
 simp only[qS,pZ] at h;split at h
 .rename_i e1;subst e1;simp only[aSk,pW.cells.injEq] at h;obtain⟨rfl,_⟩:=h;exact .inl ⟨z,toks0,hb⟩
 exact .inl ⟨y',us,h⟩
omit hT in
theorem aJC {base:Nat}{e0 e:qJ}(hr:PP base (some e0)=some e) {w':pN}{g1:Gh}{i:Nat}{v:Ty}{z:v.den}{ts:pH}{U:List (Nat×pW)}(he:e0.upd=(i,.cells v z ts)::U) (hs:e0.side=[]) (hl:e0.slot=(.any,none)) (h0:rE g w H e0 g1 w' undef) (hf:xR g base e):
  e.side=[]/\∃g',rE g w H e g' w' undef:=by
 obtain⟨sd,s,up,rd⟩:=e0;simp only at he hs hl;subst he hs hl;simp only[PP] at hr;split at hr
 case isFalse=>cases hr
 rename_i hbe;have hno:=aAB hbe;cases hz:BG v base (zJ v z 0) (some z) with
 |none=>rw[hz] at hr;cases hr
 |some z2=>
  rw[hz] at hr;simp only[TL,aSk] at hr;subst hr;refine⟨rfl,?_⟩;obtain⟨p,cs,hp,hR,hra,_,_,_⟩:=h0.heap.blk i (.cells v z ts) (by simp [qS,pZ]);have hfree: ∀j,base<=j->j<base+(zJ v z 0).length->∀n,g1.cur j n=none:=by
   intro j h1 h2 n;have hj:j∉qB ((i,pW.cells v z ts)::U):=fun h=>by have:=hno j h;omega
   rw[(h0.gho j hj).2];exact(hf j (by simp only[qB,aSx];right;rw[CD];exact .inl ((UY _ base j).2 ⟨h1,h2⟩)) h1).2 n
  obtain⟨g2,m1,m2,m3,m4⟩:=a0l (zJ v z 0) base g1 _ h0.heap hfree;have hb3:pZ (qS (EP (zJ v z 0) base) (qS ((i,pW.cells v z ts)::U) H)) i=some (.cells v z ts):=by
   rw[A0 (fun h=>by
    have h1:=(UY _ base i).1 h;have h2:=hno i (by simp [qB]);omega)]
   simp [qS,pZ]
  have cR:=fun cs (hR:Rd g2 w' v z cs) q hq=>aAu (o:=0) hR q hq;have e3:=rE.reread (z2:=z2) (p:=p) m1.heap hb3 (by rw[m2];exact hp) (fun _ h=>h) (fun cs hRc _=>a0o hz hRc (fun q hq=>by simpa using(cR cs hRc q hq).2) (fun j hj=>m3 j hj)) (fun v' q l hg=>aAC hH hz hg);have e4:=rE.trans (side:=[]) (rds:=[]) h0 m1;have e5:=rE.trans (side:=[]) (rds:=[i]) e4 (e3.congrH (H':=qS (qS (EP (zJ v z 0) base) ((i,pW.cells v z ts)::U)) H) (by simp only[KP]));exact⟨_,e5⟩
omit hT hH in
theorem aJD {i:Nat}{d:DV}{r3 r4:Nat×Nat}{sd:List Prop}{y:Nat×Nat×(Nat×Nat)×(Nat×Nat)}(h:TP i d r3 r4=some (sd,y)) (hs: ∀p∈sd,p) {v:pO}(hd:yK g w (.apd d) v):EU g w y [v]:=by
 obtain⟨b,u,rfl,hS,hc,hu⟩:=hd;unfold TP at h;split at h
 .rename_i j o;obtain⟨p,hp,rfl⟩:=x7 hu;unfold a9A at h;split at h
  .rename_i hji;subst hji;split at h
   .rename_i ho;subst ho;cases h;exact .inr ⟨pD,b,_,rfl,hS,hc,fun _=>⟨p,hp,rfl⟩,fun q=>absurd q pD,fun q=>absurd q pD,fun q=>absurd q pD⟩
   split at h
   .rename_i ho;subst ho;cases h;exact .inr ⟨pD,b,_,rfl,hS,hc,fun q=>absurd q pD,fun _=>⟨p,hp,rfl⟩,fun q=>absurd q pD,fun q=>absurd q pD⟩
   cases h
  cases h
 .rename_i k n c ix o;obtain⟨bb,cap,hcur,h0,h1,rfl⟩:=hu;unfold a9B at h;split at h
  .rename_i hc1;subst hc1;split at h
   .rename_i ho;subst ho;split at h
    .rename_i hk;cases h;have e1:=hs _ (aSJ);have e2:=hs _ (aSy _ aSJ);rw[hk,e1] at hcur;refine .inr ⟨pD,b,_,rfl,hS,hc,fun q=>absurd q pD,fun q=>absurd q pD,fun _=>⟨bb,cap,by rw[hk];exact hcur,pC,by congr 1;omega⟩,fun q=>absurd q pD⟩
    cases h
   cases h
  split at h
  .rename_i hc2;subst hc2;split at h
   .rename_i ho;subst ho;split at h
    .rename_i hk;cases h;have e1:=hs _ (aSJ);have e2:=hs _ (aSy _ aSJ);rw[hk,e1] at hcur;refine .inr ⟨pD,b,_,rfl,hS,hc,fun q=>absurd q pD,fun q=>absurd q pD,fun q=>absurd q pD,fun _=>⟨bb,cap,by rw[hk];exact hcur,pC,by congr 1;omega⟩⟩
    cases h
   cases h
  cases h
 cases h
theorem aJE {t:TypeId}{x y:Operand}(ho:o.op= .store t x y) {sx sy:pX}(hx:rF g w sx (a.eval x)) (hy:rF g w sy (a.eval y)) {base:Nat}{e:qJ}(hr:TR base H (rO T t) sx sy=some e) (hside: ∀p∈e.side,p) (hf:xR g base e):rC P o a g w H e:=by
 generalize hst:rO T t=ot at hr;unfold TR at hr;split at hr
 .rename_i ti i off k kk n k2;generalize hb:pZ H i=ob at hr;unfold MY at hr;split at hr
  .rename_i u el _ _ _ v x' toks;rcases aAA hr with hq|hq|hq
   case inr.inr hq=>
    clear hr;generalize hk:pZ H kk=ok at hq;unfold PQ at hq;split at hq
    case h_2=>cases hq
    rename_i el2 t2 l2 m2;split at hq
    case isFalse=>cases hq
    rename_i htu;subst htu;generalize hset:sD (.list t2) l2 v x' off=oz at hq;cases oz with
    |none=>cases hq
    |some z'=>
     simp only[TN,aSk] at hq;subst hq;have hnm:n=m2:=hside _ (aSC.2 rfl);subst hnm;have hty:=sP hT hst;obtain⟨p,hp,hv⟩:=x7 hx.1;obtain⟨h1,h2⟩:=hy.1;obtain⟨g1,k1,k2,k3,k4⟩:=aAi hH hk;have hik:i≠kk:=fun e1=>by rw[e1,hk] at hb;cases hb
     have hb1:pZ (qS [(kk,pW.grow el2 t2.cells n)] H) i=some (.cells v x' toks):=by
      simp only[qS,pZ];rw[aSl (Ne.symm hik)];exact hb
     have hR:Rd g1 w (.list t2) l2 [a.eval y]:=k4 _ ⟨_,by rw[k2];exact h1,rfl,h2⟩;obtain⟨heff,hth⟩:=rE.store (side:=[]) (rds:=[i]) (k:=none) (v:=a.eval y) k3.heap hb1 (by rw[k1];exact hp) hset hR trivial (fun _ _ _=>rfl) (fun _=>rfl);have hce:(a.eval y).cells= #[a.eval y]:=by rcases h2 with⟨h2,_⟩ |⟨_,_,h2,_⟩<;>(rw[h2];rfl)
     refine rC.skip (w':=w.setCells p.1 (p.2+off) [a.eval y]) ?_ (rE.trans (side:=[n=n]) (rds:=[i,kk]) k3 heff);obtain⟨inf,hi,hsz,_⟩:=DG hty;have hcells:=run_storeCells_cells (P:=P) p.1 (p.2+off) [a.eval y] 0 w (fun j hj=>by simpa using(hth j hj).1) (fun j hj=>by simpa using(hth j hj).2) (fun v hv=>zY hR v hv);simp only[aTu] at hcells;have hs2:(a.eval y).cells.size=inf.size:=by rw[hsz,hce];rfl
     have hcl:(a.eval y).cells.toList=[a.eval y]:=by rw[hce]
     simp only[execOp,ho,hv,Instr.storeAt,Instr.sureAddr,storeVar,aSw,aSI,aSr,sizeOf,typeInfo,aTf,hi,hs2,ne_eq,not_true_eq_false,aUj,hcl,hcells]
   case inr.inl hq=>
    replace hr:=hq;generalize hset:y9 el u (some (kk,n)) v x' off=oz at hr;cases oz with
    |none=>cases hr
    |some z'=>
     cases hr;have hty:=sP hT hst;obtain⟨p,hp,hv⟩:=x7 hx.1;obtain⟨h1,h2⟩:=hy.1;have hR:Rd g w (.rl el u) (some (kk,n)) [a.eval y]:=⟨_,h1,rfl,h2⟩;obtain⟨heff,hth⟩:=zN.openS (side:=[]) (rds:=[1000000000,i]) hH hb hp hset hR rfl rfl;have hce:(a.eval y).cells= #[a.eval y]:=by rcases h2 with⟨h2,_⟩ |⟨_,_,h2,_⟩<;>(rw[h2];rfl)
     refine rC.skipW (w':=w.setCells p.1 (p.2+off) [a.eval y]) ?_ heff;obtain⟨inf,hi,hsz,_⟩:=DG hty;have hcells:=run_storeCells_cells (P:=P) p.1 (p.2+off) [a.eval y] 0 w (fun j hj=>by simpa using(hth j hj).1) (fun j hj=>by simpa using(hth j hj).2) (fun v hv=>zY hR v hv);simp only[aTu] at hcells;have hs2:(a.eval y).cells.size=inf.size:=by rw[hsz,hce];rfl
     have hcl:(a.eval y).cells.toList=[a.eval y]:=by rw[hce]
     simp only[execOp,ho,hv,Instr.storeAt,Instr.sureAddr,storeVar,aSw,aSI,aSr,sizeOf,typeInfo,aTf,hi,hs2,ne_eq,not_true_eq_false,aUj,hcl,hcells]
   replace hr:=hq;generalize hset:sD (.rl el u) (some (kk,n)) v x' off=oz at hr;cases oz with
   |none=>cases hr
   |some z'=>
    cases hr;have hty:=sP hT hst;obtain⟨p,hp,hv⟩:=x7 hx.1;obtain⟨h1,h2⟩:=hy.1;have hR:Rd g w (.rl el u) (some (kk,n)) [a.eval y]:=⟨_,h1,rfl,h2⟩;obtain⟨heff,hth⟩:=rE.store (side:=[]) (rds:=[i]) (k:=none) (v:=a.eval y) hH hb hp hset hR trivial (fun _ _ _=>rfl) (fun _=>rfl);have hce:(a.eval y).cells= #[a.eval y]:=by rcases h2 with⟨h2,_⟩ |⟨_,_,h2,_⟩<;>(rw[h2];rfl)
    refine rC.skip (w':=w.setCells p.1 (p.2+off) [a.eval y]) ?_ heff;obtain⟨inf,hi,hsz,_⟩:=DG hty;have hcells:=run_storeCells_cells (P:=P) p.1 (p.2+off) [a.eval y] 0 w (fun j hj=>by simpa using(hth j hj).1) (fun j hj=>by simpa using(hth j hj).2) (fun v hv=>zY hR v hv);simp only[aTu] at hcells;have hs2:(a.eval y).cells.size=inf.size:=by rw[hsz,hce];rfl
    have hcl:(a.eval y).cells.toList=[a.eval y]:=by rw[hce]
    simp only[execOp,ho,hv,Instr.storeAt,Instr.sureAddr,storeVar,aSw,aSI,aSr,sizeOf,typeInfo,aTf,hi,hs2,ne_eq,not_true_eq_false,aUj,hcl,hcells]
  cases hr
 .rename_i ti i off _ d _;generalize hb:pZ H i=ob at hr;generalize hty0:ti.ty=ty0 at hr;unfold YT at hr;split at hr
  case h_2=>cases hr
  rename_i v x' toks;generalize hden:TP i d (TO (C5 v x' 8)) (TO (C5 v x' 11))=od at hr;cases od with
  |none=>cases hr
  |some q=>
   obtain⟨sd,yy⟩:=q;simp only[YS] at hr;generalize hset:sD .ap yy v x' off=oz at hr;cases oz with
   |none=>cases hr
   |some z'=>
    simp only[YR,aSk] at hr;subst hr;have hty:=sP hT hst;obtain⟨p,hp,hv⟩:=x7 hx.1;have hR:Rd g w .ap yy [a.eval y]:=aJD hden hside hy.1;obtain⟨heff,hth⟩:=rE.store (side:=sd) (rds:=[i]) (k:=none) (v:=a.eval y) hH hb hp hset hR trivial (fun _ _ _=>rfl) (fun _=>rfl);have hce:(a.eval y).cells= #[a.eval y]:=by
     obtain⟨b,u,e1,_⟩:=hy.1;rw[e1];rfl
    refine rC.skip (w':=w.setCells p.1 (p.2+off) [a.eval y]) ?_ heff;obtain⟨inf,hi,hsz,_⟩:=DG hty;have hcells:=run_storeCells_cells (P:=P) p.1 (p.2+off) [a.eval y] 0 w (fun j hj=>by simpa using(hth j hj).1) (fun j hj=>by simpa using(hth j hj).2) (fun v hv=>zY hR v hv);simp only[aTu] at hcells;have hs2:(a.eval y).cells.size=inf.size:=by rw[hsz,hce,hty0];rfl
    have hcl:(a.eval y).cells.toList=[a.eval y]:=by rw[hce]
    simp only[execOp,ho,hv,Instr.storeAt,Instr.sureAddr,storeVar,aSw,aSI,aSr,sizeOf,typeInfo,aTf,hi,hs2,ne_eq,not_true_eq_false,aUj,hcl,hcells]
 .rename_i ti k n c i o' _ u z kk;split at hr
  .rename_i hu;subst hu;generalize hk:pZ H k=ob at hr;unfold TQ at hr;split at hr
   .rename_i e' t' l m;split at hr
    .rename_i hc;generalize hset:sD ti.ty z t' (qH t' l i) o'=oz at hr;cases oz with
     |none=>cases hr
     |some z'=>
      cases hr;have hnm:=hside _ (aSC.2 rfl);obtain⟨b,cap,xs,c1,c2,c3,hv,hcur,hown,hF,hl,hi,h0,e1,e2,e3,e4⟩:=aAl hT hH hx.1 hk hnm hc;subst hnm;have hty:=sP hT hst;obtain⟨hvy,hky⟩:=a0q hT hH hy;have hR:=EV hvy;have hRl:=sL hR;obtain⟨d1,d2,d3,f1,f2,f3,f4⟩:=Q3 hR e4 hset;obtain⟨_,_,_,_,hv0,hown0,_,hnone,hseal⟩: ∃(_:True) (_:True) (v0:pO) (xs0:pJ),g.cur k n=some v0/\w.ownsRow 0 e' t'.cells v0 n xs0/\tV (Rd g w t') t'.cells l xs0/\(∀m,n<m->g.cur k m=none)/\∀b,v0.ownBlock=some b->∀o,¬g.S b o:=by
       obtain⟨_,v0,xs0,q1,q2,q3,q4,q5⟩:=hH.blk k _ hk;exact⟨trivial,trivial,v0,xs0,q1,q2,q3,q4,q5⟩
      rw[hcur] at hv0;obtain rfl:=aSo hv0;rcases hown.2 with⟨h5,_⟩ |⟨q,cap',cur,h5,_,hg,hnc,hcm,hcs,htake⟩
      .cases h5
      simp only[aTX,aSk,Addr.mk.injEq,and_true,true_and] at h5;obtain⟨rfl,rfl⟩:=h5;have hxl:=hown.1;have hnew:=sL f4;simp only[aSp] at hnew;have hc2l:c2.length=t'.cells:=by rw[e3,hc]
      have hd:d1.length+d2.length+d3.length=t'.cells:=by rw[<-hc2l,f1];simp only[aSp]
      have hx1:c1.length+c2.length+c3.length=n*t'.cells:=by rw[<-hxl,e1];simp only[aSp]
      have hall:cur.toList=(c1++(d1++d2++d3)++c3)++cur.toList.drop (n*t'.cells):=by
       conv=>lhs;rw[<-aTv (n*t'.cells) cur.toList,htake,e1,f1]
      obtain⟨D,hD⟩: ∃D,D=cur.toList.drop (n*t'.cells):=⟨_,rfl⟩;rw[<-hD] at hall;have hall2:cur.toList=(c1++d1)++(d2++(d3++c3++D)):=by rw[hall];simp only[aSv]
      have hpos:i.toNat*c+o'=(c1++d1).length:=by rw[aSp,e2,f2]
      have hD2:(a.eval y).cells.toList.length=d2.length:=by rw[hRl,f3]
      have hfit:i.toNat*c+o'+0+(a.eval y).cells.toList.length<=cur.size:=by
       have:cur.size=cur.toList.length:=by simp
       rw[this,hall2,aTu,hpos,hD2];simp only[aSp];omega
      have hst2:=run_storeCells_at P b (i.toNat*c+o') e' (a.eval y).cells.toList 0 cur w hg hfit (fun v hv=>zY hR v hv);have hrow:cur.toList.take (i.toNat*c+o'+0)++(a.eval y).cells.toList++cur.toList.drop (i.toNat*c+o'+0+(a.eval y).cells.toList.length)=(c1++(d1++(a.eval y).cells.toList++d3)++c3)++D:=by
       rw[aTu,hpos,hD2,hall2,aT4,List.drop_append,List.drop_of_length_le pC,List.nil_append,aS9,List.drop_left];simp only[aSv]
      rw[hrow] at hst2;obtain⟨inf,hinf,hsz,_⟩:=DG hty;have hs2:(a.eval y).cells.size=inf.size:=by rw[hsz,<-hRl,aTd]
      have hnewlen:((c1++(d1++(a.eval y).cells.toList++d3)++c3)++D).length=cur.size:=by
       have:cur.size=cur.toList.length:=by simp
       rw[this,hall];simp only[aSp];omega
      have hxs':(c1++(d1++(a.eval y).cells.toList++d3)++c3).length=n*t'.cells:=by
       rw[<-hx1];simp only[aSp];rw[f1];simp only[aSp];omega
      have hown':(w.setRow b ((c1++(d1++(a.eval y).cells.toList++d3)++c3)++D).toArray).ownsRow 0 e' t'.cells (.slice (some ⟨b,0,none⟩) n cap) n (c1++(d1++(a.eval y).cells.toList++d3)++c3):=
       ⟨hxs',.inr ⟨b,cap,_,rfl,aTg _,aUq w b cur _ e' _ hg,hnc,hcm,by rw[aTo,hnewlen,hcs],by rw[<-hxs'];exact aT4⟩⟩
      have hF':tV (Rd g w t') t'.cells (l.set i.toNat z') (c1++(d1++(a.eval y).cells.toList++d3)++c3):=by
       obtain⟨q1,q2,q3,r1,r2,r3,r4⟩:=UW hF f4 (sL f4) hi;have s1:q1=c1/\q2=c2/\q3=c3:=by
        have h6:q1++(q2++q3)=c1++(c2++c3):=by rw[<-aSv,<-r1,e1,aSv]
        obtain⟨h7,h8⟩:=aTY h6 (by rw[r2,e2,hc]);obtain⟨h9,h10⟩:=aTY h8 (by rw[r3,e3,hc]);exact⟨h7,h9,h10⟩
       obtain⟨rfl,rfl,rfl⟩:=s1;exact r4
      have hownk: ∀o,sK g H [k] b o:=fun o=>⟨k,_,by simp,hk,_,hcur,rfl⟩;refine rC.skip (w':=w.setRow b ((c1++(d1++(a.eval y).cells.toList++d3)++c3)++D).toArray) ?_ (rE.row (v:= .slice (some ⟨b,0,none⟩) n cap) hH (by rw[List.length_set];exact hl) hown' hF' hnone (fun u hu=>by rw[hcur] at hu;exact(aSo hu).symm)
       (.inr ⟨some b,⟨rfl,rfl,rfl,by simp,fun q _ hq=>aT7 w b q _ (fun e=>hq (by rw[e]))⟩,fun b' hb' o=>by cases hb';exact hownk o⟩) (fun b' o hS=>?_) hseal (fun b' hb'=>by cases hb';exact .inr hownk) ⟨trivial,trivial⟩)
      .simp only[execOp,ho,hv,Instr.storeAt,Instr.sureAddr,storeVar,aSw,aSI,aSr,sizeOf,typeInfo,aTf,hinf,hs2,ne_eq,not_true_eq_false,aUj,hst2]
      have hne:b'≠b:=fun e=>hseal b rfl o (e▸hS);exact aSH (a:=⟨b',o,none⟩) (aT7 w b b' _ hne)
    cases hr
   cases hr
  cases hr
 .rename_i ti i off k u z kk;split at hr
  .rename_i hu;subst hu;generalize hb:pZ H i=ob at hr;have hty:=sP hT hst;obtain⟨p,hp,hv⟩:=x7 hx.1;obtain⟨hvy,hky⟩:=a0q hT hH hy;have hR:=EV hvy;have hone:ti.ty.isRow=false->(a.eval y).cells.toList=[a.eval y]:=fun hrow=>by
    have h1:=zY (wZ hrow hvy) _ (aSC.2 rfl);cases h:a.eval y<;>first|rfl|(rw[h] at h1;simp [Value.oneCell'] at h1)
   have hrun:w.there p.1 (p.2+off) (a.eval y).cells.toList.length->(execOp a.eval o).run P w= .ok .skip (w.setCells p.1 (p.2+off) (a.eval y).cells.toList):=by
    intro hth;obtain⟨inf,hi,hsz,_⟩:=DG hty;have hlen:=sL hR;have hcells:=run_storeCells_cells (P:=P) p.1 (p.2+off) (a.eval y).cells.toList 0 w (fun j hj=>by simpa using(hth j hj).1) (fun j hj=>by simpa using(hth j hj).2) (fun v hv=>zY hR v hv);simp only[aTu] at hcells;have hs2:(a.eval y).cells.size=inf.size:=by rw[hsz,<-hlen,aTd]
    simp only[execOp,ho,hv,Instr.storeAt,Instr.sureAddr,storeVar,aSw,aSI,aSr,sizeOf,typeInfo,aTf,hi,hs2,ne_eq,not_true_eq_false,aUj,hcells]
   have fin: ∀{e0:qJ}{g1:Gh}{w':pN}{j:Nat}{v:Ty}{zz:v.den}{ts:pH}{U:List (Nat×pW)},FY base i off ob ti.ls ti.ty z kk=some e0->e0.upd=(j,.cells v zz ts)::U->e0.side=[]->e0.slot=(.any,none)->(execOp a.eval o).run P w= .ok .skip w'->rE g w H e0 g1 w' undef->rC P o a g w H e:=by
    intro e0 g1 w' j v zz ts U h0 h1 h2 h3 h5 h6;rw[h0] at hr;cases hb':K7 ti.ty with
    |false=>
     rw[hb'] at hr;cases hr;exact rC.skip h5 h6
    |true=>
     rw[hb'] at hr;obtain⟨_,g',h7⟩:=aJC hH hr h1 h2 h3 h6 (fun q hq hle=>hf q hq pC);exact rC.skip h5 h7
   obtain⟨e0,hr0⟩: ∃e0,FY base i off ob ti.ls ti.ty z kk=some e0:=by
    cases h:FY base i off ob ti.ls ti.ty z kk with
    |some e0=>exact⟨e0,rfl⟩
    |none=>
     rw[h] at hr;cases hb':K7 ti.ty<;>rw[hb'] at hr<;>cases hr
   have hf0: ∀q,q∈qB e0.upd->q∈qB e.upd:=by
    rw[hr0] at hr;cases hb':K7 ti.ty with
    |false=>rw[hb'] at hr;cases hr;exact fun _ h=>h
    |true=>
     rw[hb'] at hr;obtain⟨sd,s,up,rd⟩:=e0;simp only[YQ] at hr;unfold PP at hr;split at hr
     .rename_i heq;cases heq;split at hr
      case isFalse=>cases hr
      generalize hzz:BG _ _ _ _=ozz at hr;cases ozz with
      |none=>cases hr
      |some z2=>
       simp only[TL,aSk] at hr;subst hr;intro q hq;simp only[qB,aSx];right;rw[CD];exact .inr hq
     cases hr
   replace hf:xR g base e0:=fun q hq hle=>hf q (hf0 q hq) hle;rcases aJA hr0 with⟨s,x',toks,z',hb',hset,hsome,⟨pa,pb,hpair⟩,mk_,hmk,hok,rfl⟩ |hr1
   .rw[hb'] at hb;have hn:xP mk_ ti.ty 0 (a.eval y).cells.toList:=by
     obtain⟨m',e1,e2⟩:=aJz hsome hpair hky;rw[hmk] at e1;obtain rfl:=aSo e1;exact e2
    have hlx:=fun q hq=>UZ (k:=mk_) (ls:=ti.ls) (q:=q) hq;generalize C8 mk_ ti.ls=lsm at hf hok hlx hr0;obtain⟨heff,hth⟩:=rE.store (side:=[]) (rds:=[i]) (k:=none) (v:=undef) hH hb hp hset hR trivial (fun _ _ _=>rfl) (fun h=>by rw[hpair] at h;cases h);have hfr: ∀j,base<=j->j<base+lsm.length->∀n,g.cur j n=none:=fun j h1 h2=>(hf j (by
     simp only[qB,aSx];right;rw[CD];exact .inl ((Q9 _ base j).2 ⟨h1,h2⟩)) h1).2
    obtain⟨g1,k1,k2,k3,k4⟩:=a0i lsm base g _ heff.heap hfr;have e2:=rE.trans (side:=[]) (rds:=[]) heff k1;have hib:i<base:=by
     rcases aTl i base with h|h
     .exact h
     have:=(hf i (by simp [qB]) h).1;rw[hp] at this;cases this
    have hiN:i∉qB (DC lsm base):=fun h=>by
     have:=(Q9 _ base i).1 h;omega
    have hb3:pZ (qS (qS (DC lsm base) [(i,pW.cells s z' (t6 toks off ti.ty.cells))]) H) i=some (.cells s z' (t6 toks off ti.ty.cells)):=by
     rw[KP,A0 hiN];simp [qS,pZ]
    have hyl:=sL hR;have e3:=rE.retok (p:=p) (nt:=MX off (C7 lsm base)) e2.heap hb3 (by rw[k2];exact hp) (fun cs hRz hra o k hm=>by
     obtain⟨q,rfl,hq⟩:=aAx hm;obtain⟨en,he,rfl⟩:=a0j hq;obtain⟨u,h1,h2⟩:=aAd hn hR (a0k hok en he) (by have:=hlx en he;omega);have hql:en.1<(a.eval y).cells.toList.length:=(aSz.1 h2).1;have h3:=aAy hset h1 pC;refine⟨u,[],.slice none 0 0,h3,?_,k3 _ _ hq⟩;have hlen:=sL hRz;have hlt:=aAz h3;have hc:cs[off+en.1]? =some cs[off+en.1]:=aSu pC;have hr1:=hra _ _ hc;have hr2:=aTM p.1 (a.eval y).cells.toList (p.2+off) w (fun j hj=>(hth j hj).1) en.1 hql;rw[aS3] at hr2;rw[hr2] at hr1;rw[hc,<-hr1,<-h2,aSu hql])
    exact fin (w':=w.setCells p.1 (p.2+off) (a.eval y).cells.toList) hr0 rfl rfl rfl (hrun hth) (rE.trans (side:=[]) (rds:=[i]) e2 e3)
   cases ob with
   |none=>cases hr1
   |some bl=>
   cases bl with
   |cells s q toks=>
    simp only[TJ] at hr1;generalize hset:sD ti.ty z s q off=oz at hr1;cases oz with
    |none=>cases hr1
    |some z'=>
     simp only[MW,aSk] at hr1;subst hr1;obtain⟨heff,hth⟩:=rE.store (side:=[]) (rds:=[i]) hH hb hp hset hR (aJy hky) (fun a b e=>by rw[e];rfl) hone;exact fin (w':=w.setCells p.1 (p.2+off) (a.eval y).cells.toList) hr0 rfl rfl rfl (hrun hth) heff
   |_=>cases hr1
  cases hr
 cases hr
omit hT in
theorem rE.poke {k:Nat}{e:TypeId}{t:Ty}{l:List t.den}{m:Nat}(hk:pZ H k=some (.row e t l m)) {b cap:Nat}(hcur:g.cur k m=some (.slice (some ⟨b,0,none⟩) m cap)) {i:Int}(h0:0<=i) (h1:i<(m:Int)) {o':Nat}{uT:Ty}{y:uT.den}{z':t.den}(hset:sD uT y t (qH t l i) o'=some z') {u:pO}(hy:Rd g w uT y [u]):
  rE g w H ⟨[],(.any,none),[(k,.row e t (l.set i.toNat z') m)],[]⟩ (g.tok k m (.slice (some ⟨b,0,none⟩) m cap)) (w.setCells b (i.toNat*t.cells+o') [u]) undef:=by
 obtain⟨hl,v0,xs,hv0,hown,hF,hnone,hseal⟩:=hH.blk k _ hk;rw[hcur] at hv0;obtain rfl:=aSo hv0;have hi:i.toNat<l.length:=by rw[hl];omega
 obtain⟨c1,c2,c3,e1,e2,e3,e4⟩:=UU hF (aAh h0 hi);obtain⟨d1,d2,d3,f1,f2,f3,f4⟩:=Q3 hy e4 hset;rcases hown.2 with⟨h5,_⟩ |⟨q,cap',cur,h5,_,hg,hnc,hcm,hcs,htake⟩
 .cases h5
 simp only[aTX,aSk,Addr.mk.injEq,and_true,true_and] at h5;obtain⟨rfl,rfl⟩:=h5;have hxl:=hown.1;have hnew:=sL f4;have hyl:=sL hy;simp only[aSp,aTw] at hnew hyl;have hd:d1.length+d2.length+d3.length=t.cells:=by rw[<-e3,f1];simp only[aSp]
 have hx1:c1.length+c2.length+c3.length=m*t.cells:=by rw[<-hxl,e1];simp only[aSp]
 have hall:cur.toList=(c1++(d1++d2++d3)++c3)++cur.toList.drop (m*t.cells):=by
  conv=>lhs;rw[<-aTv (m*t.cells) cur.toList,htake,e1,f1]
 obtain⟨D,hD⟩: ∃D,D=cur.toList.drop (m*t.cells):=⟨_,rfl⟩;rw[<-hD] at hall;obtain⟨x2,rfl⟩: ∃x2,d2=[x2]:=aTt.1 pC;have hall2:cur.toList=(c1++d1)++(x2::(d3++c3++D)):=by rw[hall];simp only[aSv,List.cons_append,List.nil_append]
 have hpos:i.toNat*t.cells+o'=(c1++d1).length:=by rw[aSp,e2,f2]
 have hw:w.setCells b (i.toNat*t.cells+o') [u]=w.setRow b ((c1++(d1++[u]++d3)++c3)++D).toArray:=by
  show w.setCell ⟨b,i.toNat*t.cells+o',none⟩ u=_;rw[setCell_eq_setRow w b _ cur e (0,0) u hg];congr 1;apply aTn.1;rw[Array.toList_setIfInBounds,hall2,hpos,List.set_append_right _ _ (aSE _),aTR,List.set_cons_zero];simp only[aSv,List.cons_append,List.nil_append]
 have hnewlen:((c1++(d1++[u]++d3)++c3)++D).length=cur.size:=by
  have:cur.size=cur.toList.length:=by simp
  rw[this,hall];simp only[aSp,aTw]
 have hxs':(c1++(d1++[u]++d3)++c3).length=m*t.cells:=by
  rw[<-hx1,f1];simp only[aSp,aTw]
 have hown':(w.setRow b ((c1++(d1++[u]++d3)++c3)++D).toArray).ownsRow 0 e t.cells (.slice (some ⟨b,0,none⟩) m cap) m (c1++(d1++[u]++d3)++c3):=
  ⟨hxs',.inr ⟨b,cap,_,rfl,aTg _,aUq w b cur _ e _ hg,hnc,hcm,by rw[aTo,hnewlen,hcs],by rw[<-hxs'];exact aT4⟩⟩
 have hF':tV (Rd g w t) t.cells (l.set i.toNat z') (c1++(d1++[u]++d3)++c3):=by
  obtain⟨q1,q2,q3,r1,r2,r3,r4⟩:=UW hF f4 (sL f4) hi;have s1:q1=c1/\q2=c2/\q3=c3:=by
   have h6:q1++(q2++q3)=c1++(c2++c3):=by rw[<-aSv,<-r1,e1,aSv]
   obtain⟨h7,h8⟩:=aTY h6 (by rw[r2,e2]);obtain⟨h9,h10⟩:=aTY h8 (by rw[r3,e3]);exact⟨h7,h9,h10⟩
  obtain⟨rfl,rfl,rfl⟩:=s1;exact r4
 have hownk: ∀o,sK g H [k] b o:=fun o=>⟨k,_,by simp,hk,_,hcur,rfl⟩;rw[hw];refine rE.row (v:= .slice (some ⟨b,0,none⟩) m cap) hH (by rw[List.length_set];exact hl) hown' hF' hnone (fun u hu=>by rw[hcur] at hu;exact(aSo hu).symm)
  (.inr ⟨some b,⟨rfl,rfl,rfl,by simp,fun q _ hq=>aT7 w b q _ (fun e=>hq (by rw[e]))⟩,fun b' hb' o=>by cases hb';exact hownk o⟩) (fun b' o hS=>?_) hseal (fun b' hb'=>by cases hb';exact .inr hownk) ⟨trivial,trivial⟩
 have hne:b'≠b:=fun e=>hseal b rfl o (e▸hS);exact aSH (a:=⟨b',o,none⟩) (aT7 w b b' _ hne)
omit hT in
theorem rE.below {w1:pN}(h:Below w.heap.size w w1):rE g w H ⟨[],(.any,none),[],[]⟩ g w1 undef:=by
 have le:Le g w g w1:=⟨fun _ _ h=>h,fun b o hS=>aSH (a:=⟨b,o,none⟩) (h.block b (hH.sl b o hS)),fun _ _ h=>h,fun _ _ _ h=>h⟩;have fr:Fr (sK g H (qB [])) w w1 g.S g.S:=⟨h.os,h.tape,h.output,h.size,fun b hb _=>h.block b hb,fun b o hb _=>⟨aSH (a:=⟨b,o,none⟩) (h.block b hb),aS8 (a:=⟨b,o,none⟩) (h.block b hb)⟩,fun _ _ h=> .inl h,fun b s hs=> .inl ((BN (h.block b (BM hs))).trans hs)⟩;exact⟨le,⟨trivial,trivial⟩,hH.upd le fr (fun _ _ _ _ hi=>(by cases hi)) (fun _ _=>⟨rfl,rfl⟩) (fun _ _ hi=>(by cases hi)) (fun _ _ _ _ _ _ hi=>(by cases hi)) (fun b o hS=>aSW (hH.sl b o hS) h.size),fr,fun _ _ _ _ hi=>(by cases hi),fun _ _=>⟨rfl,rfl⟩,fun _ _ y us h=> .inl ⟨y,us,h⟩⟩
theorem aAD {t:Ty}{n:Nat}{ev:Operand->pO}{ρ:Operand->pX}: ∀(ps:List (Nat×Operand)) (l z:List t.den) (cs:pJ),tV (Rd g w t) t.cells l cs->l.length=n->(∀q∈ps,rF g w (ρ q.2) (ev q.2))->BC t n (some l) (u7 ρ ps)=some z->
  ∃cs',Instr.fill (fun i=>some (i*t.cells,t.cells)) cs.toArray (ps.map fun q=>(q.1,ev q.2))=some cs'.toArray/\tV (Rd g w t) t.cells z cs'/\z.length=n
 |[],l,z,cs,r,hl,_,h=>by
  simp only[u7,BC,aSk] at h;subst h;exact⟨cs,rfl,r,hl⟩
 |(i,q)::ps,l,z,cs,r,hl,hq,h=>by
  have h0:=hq (i,q) pE;generalize hs:ρ q=s at h0;simp only[u7,hs] at h;obtain⟨d,k⟩:=s;cases d with
  |val u y=>
   simp only[BC,a9e] at h;by_cases hc:u=t/\i<n
   .rw[aUe hc] at h;obtain⟨rfl,hi⟩:=hc;simp only[tZ] at h;have hR:=EV h0.1;obtain⟨c1,c2,c3,rfl,h2,h3,h4⟩:=UW (i:=i) r hR (sL hR) pC;obtain⟨cs',k1,k2,k3⟩:=aAD ps (l.set i y) z _ h4 (by simpa using hl) (fun q hq'=>hq q (by simp [hq'])) h;refine⟨cs',?_,k2,k3⟩;simp only[aTC];rw[aAc rfl (by have:=sL hR;simpa using this) (c1:=c1) (c2:=c2) (c3:=c3) pE h2 h3];exact k1
   .rw[aTI hc] at h;cases ps with
    |nil=>simp [u7,BC] at h
    |cons p ps=>simp [u7,BC] at h
  |_=>simp [BC] at h
theorem a0r {t:TypeId}{n:Nat}{ps:Array (Nat×Operand)}(ho:o.op= .buildSlice t n ps) {ρ:Operand->pX}(hρ: ∀q∈ps.toList,rF g w (ρ q.2) (a.eval q.2)) {u:Ty}{el:TypeId}{by':Nat}{ar:Bool}{ls:List (Nat×TypeId×Nat)}(hst:rO T t=some ⟨.list u,el,by',ar,ls⟩) {l:List u.den}
  (hb:BC u n (some (CU u n)) (u7 ρ ps.toList)=some l) (hn:n<=16777216/\n*u.cells<=16777216):
  ∃cs':pJ,tV (Rd g w u) u.cells l cs'/\l.length=n/\(execOp a.eval o).run P w= .ok (.value (.slice (some ⟨w.heap.size,0,none⟩) n n)) (w.alloc (.cells cs'.toArray el)):=by
    obtain⟨h2,h3,_⟩:=(sP hT hst).2;obtain⟨ei,hei,hz⟩:=aSA.1 h3;simp only[aSP] at hz;obtain⟨cs',k1,k2,k3⟩:=aAD hT hH ps.toList (CU u n) l _ (aAq n) (aAr u n) hρ hb;refine⟨cs',k2,k3,?_⟩;have hzc:(xQ u).cells=(u1 u).toArray:=by
     unfold xQ;cases h:u<;>simp [Ty.isRow,u1,Value.cells]
    have hmap:(ps.map fun(q:Nat×Operand)=>(q.1,a.eval q.2)).toList=ps.toList.map fun q=>(q.1,a.eval q.2):=by simp
    have hzl:(u1 u).length=u.cells:=sL (DF g w u);have hrow: ∀z:Array pO,(n*u.cells≠0->z=(u1 u).toArray)->(Array.range (n*u.cells)).map (fun i=>z[i%z.size]!)=(List.flatten (List.replicate n (u1 u))).toArray:=by
     intro z hz0;by_cases h0:n*u.cells=0
     .rw[h0];have:List.flatten (List.replicate n (u1 u))=[]:=aSQ (by simp [hzl,h0]);rw[this];simp
     rw[hz0 h0];have hpos:0<u.cells:=Nat.pos_of_ne_zero (fun h=>h0 (by rw[h];simp));apply aTn.1;apply List.ext_getElem?;intro j;have key: ∀(m j:Nat),j<m*u.cells->(List.flatten (List.replicate m (u1 u)))[j]? =(u1 u)[j%u.cells]? :=by
      intro m
      induction m with
      |zero=>intro j h;simp at h
      |succ m ih=>
       intro j h;rw[List.replicate_succ,aUi];by_cases hj:j<u.cells
       .rw[aSD pC,Nat.mod_eq_of_lt hj]
       rw[aSt pC,hzl,ih (j-u.cells) (by rw[aTD] at h;omega)];congr 1
       conv=>rhs;rw[<-Nat.sub_add_cancel (Nat.le_of_not_lt hj),Nat.add_mod_right]
     by_cases hj:j<n*u.cells
     .have hm:j%u.cells<(u1 u).length:=by rw[hzl];exact Nat.mod_lt _ hpos
      simp only[Array.toList_map,Array.toList_range,List.getElem?_map,List.getElem?_range hj,Option.map_some,aTo,hzl];rw[key n j hj,aSu hm];simp [getElem!_pos,hm]
     rw[aTF pF,aTF (by simp [hzl];omega)]
    have hlim: ¬(n*u.cells>2^24):=by have:=hn.2;omega
    by_cases h0:n*u.cells=0
    .simp only[execOp,ho,Instr.buildSlice,aSw,aSF h2,aSr,sizeOf,typeInfo,aTf,hei,hz.1,aSI,aSl hlim,aSj h0];rw[hrow #[] (fun h=>absurd h0 h),hmap,k1];simp only[newRow,aSw,run_newObj,aSr,aSI];rfl
    simp only[execOp,ho,Instr.buildSlice,aSw,aSF h2,aSr,sizeOf,typeInfo,aTf,hei,hz.1,aSI,aSl hlim,aSl h0,zeroValue,hz.2.2,hzc];rw[hrow (u1 u).toArray (fun _=>rfl),hmap,k1];simp only[newRow,aSw,run_newObj,aSr,aSI];rfl
theorem aJF {t:TypeId}{n:Nat}{ps:Array (Nat×Operand)}(ho:o.op= .buildSlice t n ps) {ρ:Operand->pX}(hρ: ∀q∈ps.toList,rF g w (ρ q.2) (a.eval q.2)) {base:Nat}{e:qJ}(hr:YI base n (u7 ρ ps.toList) (rO T t)=some e) (hf:xR g base e):rC P o a g w H e:=by
 generalize hst:rO T t=ot at hr;unfold YI at hr;split at hr
 .rename_i u el by' ls_;split at hr
  .rename_i hn0;generalize hb:BC u n (some (CU u n)) (u7 ρ ps.toList)=ol at hr;cases ol with
   |none=>cases hr
   |some l=>
    simp only[a9u] at hr;split at hr
    .rename_i hn;cases hr;obtain⟨cs',k2,k3,hrun⟩:=a0r hT hH ho hρ hst hb hn.2;have hfr:=(hf base (by simp [qB]) (aSE _)).2;have hlen:=KM k2;have hown:(w.alloc (.cells cs'.toArray el)).ownsRow 0 el u.cells (.slice (some ⟨w.heap.size,0,none⟩) n n) n cs':=⟨by rw[hlen,k3],.inr ⟨w.heap.size,n,cs'.toArray,rfl,aTg _,aUo w _,aSE _,by unfold maxLen;omega,by simp [hlen,k3],by simp [<-k3,<-hlen]⟩⟩;refine rC.value hrun (rE.row (v:= .slice (some ⟨w.heap.size,0,none⟩) n n) (xs:=cs') hH k3 hown k2 (fun m _=>hfr m) (fun u hu=>by rw[hfr] at hu;cases hu) (.inl (World.grownBy_alloc w _ _)) (fun b o h=>aSH (a:=⟨b,o,none⟩) (aSU _ _ _ (hH.sl b o h))) (fun b hb o hs=>?_) (fun b hb=>?_) ⟨⟨by simp [Gh.tok],.inr ⟨_,_,rfl,aSE _⟩⟩,trivial⟩)
     .cases hb;exact aT0 _ (hH.sl _ _ hs)
     cases hb;exact .inl (aSE _)
    cases hr
  rename_i hn0;generalize hb:BC u n (some (CU u n)) (u7 ρ ps.toList)=ol at hr;cases ol with
  |none=>cases hr
  |some l=>
   simp only[TA] at hr;split at hr
   .rename_i hn;cases hr;obtain⟨cs',k2,k3,hrun⟩:=a0r hT hH ho hρ hst hb hn;have hfr:=hf base (by simp [qB]) (aSE _);exact rC.value (v:= .slice (some ⟨w.heap.size,0,none⟩) n n) (w':=w.alloc (.cells cs'.toArray el)) hrun (rE.lit hH rfl k3 k2 (by unfold maxLen;omega) hfr.2)
   cases hr
 .rename_i u el by' ls_;generalize hb:BC u n (some (CU u n)) (u7 ρ ps.toList)=ol at hr;cases ol with
  |none=>cases hr
  |some l=>
   simp only[TA] at hr;split at hr
   .rename_i hn;cases hr;obtain⟨cs',k2,k3,hrun⟩:=a0r hT hH ho hρ hst hb hn;have hfr:=hf base (by simp [qB]) (aSE _);exact rC.value (v:= .slice (some ⟨w.heap.size,0,none⟩) n n) (w':=w.alloc (.cells cs'.toArray el)) hrun (rE.lit hH rfl k3 k2 (by unfold maxLen;omega) hfr.2)
   cases hr
 cases hr
theorem aJG {args:Array Operand}{tys:Array TypeId}(ho:o.op= .call ⟨.builtin .append,args,tys⟩) {ρ:Operand->pX}(hρ: ∀x∈args.toList,rF g w (ρ x) (a.eval x)) {e:qJ}
  {t:TypeId}(htt:tys= #[t,t]) (hr:TY H (rO T t) (vK ρ args.toList)=some e) (hs: ∀p∈e.side,p):rC P o a g w H e:=by
 subst htt;generalize hst:rO T t=ot at hr;generalize hss:vK ρ args.toList=ss at hr;unfold TY at hr;split at hr
 .rename_i u el by' ar ls_ k n _ b1 r _;split at hr
  .rename_i hbu;subst hbu;generalize hk:pZ H k=ob at hr;unfold TX at hr;split at hr
   .rename_i e' t' l m;split at hr
    .rename_i hbt;subst hbt;split at hr
     .rename_i hec;obtain⟨rfl,hpos,hb1⟩:=hec;simp only[tZ] at hr;cases hr;have hnm:=hs _ (by simp:(n=m)∈_);subst hnm;have hby:=hs _ (by simp:((n+List.length r)*by'<=140737488355328)∈_);obtain⟨v,vr,hv,hs1,hs2⟩:=UT hT hH hρ hss;obtain⟨h2,h3,_⟩:=(sP hT hst).2;obtain⟨ei,hei,hz⟩:=aSA.1 h3;simp only[aSP] at hz;obtain⟨cs,hx⟩:=G5 (a:=a) hT hH ho;obtain⟨hl,v0,xs,hv0,hown,hF0,hnone,hseal⟩:=hH.blk k _ hk;obtain⟨hcur,hshape⟩:=hs1.1;rw[hv0] at hcur;obtain rfl:=aSo hcur;obtain⟨adr,capr,hvr,hler,hlr⟩:=EW hs2.1;have hlen2:(l++r).length=n+List.length r:=by rw[aSp,hl]
      rw[hlen2];have hownk: ∀q,v0.ownBlock=some q->∀o,sK g H [k] q o:=fun q hq o=>⟨k,_,by simp,hk,v0,hv0,hq⟩;by_cases hm:List.length r=0
      .obtain rfl:r=[]:=aSQ hm;refine rC.value (v:=v0) (w':=w) ?_ (rE.row (v:=v0) (xs:=xs) hH hlen2 hown (by rw[List.append_nil];exact hF0) hnone (fun u hu=>by
        have h5:g.cur k n=some u:=hu;rw[hv0] at h5;exact(aSo h5).symm) (.inl ⟨rfl,rfl,rfl,aSE _,fun _ _ _=>rfl⟩) (fun _ _ _=>rfl) hseal (fun q hq=> .inr (hownk q hq)) ⟨⟨by simp [Gh.tok],hshape⟩,trivial⟩)
       obtain⟨adl,capl,hvl,hlel⟩: ∃adl capl,v0= .slice adl n capl/\n<=capl:=by
        rcases hshape with⟨h,rfl⟩ |⟨b,cap,h,h'⟩
        .exact⟨_,_,h,aSE _⟩
        exact⟨_,_,h,h'⟩
       rw[hx,hv,hvr,hvl];have ha0:(#[Value.slice adl n capl,Value.slice adr (List.length ([]:List b1.den)) capr]:Array pO)[0]? =some (.slice adl n capl):=rfl;have ha1:(#[Value.slice adl n capl,Value.slice adr (List.length ([]:List b1.den)) capr]:Array pO)[1]? =some (.slice adr 0 capr):=rfl;have ht0:(#[t,t]:Array TypeId)[0]? =some t:=rfl;have ht1:(#[t,t]:Array TypeId)[1]? =some t:=rfl;simp only[builtin,Builtin.append_,ht0,ht1,ha0,ha1,aSw,aSF h2,aSr,aSI,sizeOf,typeInfo,aTf,hei];cases adr<;>cases adl<;>simp [Builtin.lenOf,Builtin.firstCells,loadCells,loadCellsFrom,storeCells,hlel]
      obtain⟨b,off,rfl,hL⟩: ∃b o,adr=some ⟨b,o,none⟩/\yJ (Rd g w b1) w g.S b1.cells b o r:=by
       rcases hlr with rfl|h
       .exact absurd rfl hm
       exact h
      obtain⟨news,hF,hra,_⟩:=Q7 hL;obtain⟨q,cap,w',hrun,hown',hq,hg,hcap,hcell⟩:=aAs (P:=P) w t o.type e' ei (xQ b1) b1.cells by' h2 hei hz.2.2 hz.1 hz.2.1 (by
       have:=sL (EV (KQ g w b1));simpa using this) v0 n xs hown ⟨b,off,none⟩ (List.length r) capr news (KM hF) (fun j u hu=>by rw[aTp];exact hra j u hu) (a0f (fun _ _ h=>zY h) hF) pC
       (by
        have:=Nat.mul_le_mul_left (n+List.length r) hb1;unfold maxLen;omega) hby
      refine rC.value (v:= .slice (some ⟨q,0,none⟩) (n+List.length r) cap) (w':=w') ?_ (rE.row (v:= .slice (some ⟨q,0,none⟩) (n+List.length r) cap) (xs:=xs++news) hH hlen2 hown' (ZR hF0 hF) (fun m hm'=>hnone m pC) (fun u hu=>by
       rw[hnone _ pC] at hu;cases hu) (.inr ⟨v0.ownBlock,hg,fun b hb o=>hownk b hb o⟩) (fun b o hS=>hcell b o (hH.sl b o hS) (fun hb=>absurd hS (hseal b hb o))) (fun b hb o hS=>?_) (fun b hb=>?_) ⟨⟨by simp [Gh.tok],.inr ⟨q,cap,rfl,hcap⟩⟩,trivial⟩)
      .rw[hx,hv,hvr];simp only[builtin,aSw,hrun,aSr,aSI]
      .cases hb;rcases hq with h|h
       .rw[h] at hS;exact aT0 _ (hH.sl _ _ hS)
       exact hseal _ h o hS
      cases hb;rcases hq with h|h
      .exact .inl (aTN h.symm)
      exact .inr (hownk _ h)
     cases hr
    cases hr
   cases hr
  cases hr
 .rename_i u el by' ar ls_ a1 l k b1 r k2;split at hr
  .rename_i hab;obtain⟨rfl,rfl⟩:=hab;simp only[tZ] at hr;generalize hk:pZ H k=ob at hr;unfold TW at hr;split at hr
   .rename_i e' c n;split at hr
    .rename_i hec;obtain⟨rfl,hcc,hpos,hb1⟩:=hec;cases hr;rw[aSp];have hln:=hs _ (by simp:(List.length l=n)∈_);have hby:=hs _ (by simp:((List.length l+List.length r)*by'<=140737488355328)∈_);obtain⟨v,vr,hv,hs1,hs2⟩:=UT hT hH hρ hss;obtain⟨h2,h3,_⟩:=(sP hT hst).2;obtain⟨ei,hei,hz⟩:=aSA.1 h3;simp only[aSP] at hz;obtain⟨cs,hx⟩:=G5 (a:=a) hT hH ho;obtain⟨v0,xs,hv0,hown,hnone,hseal⟩:=hH.blk k _ hk;have hcur:g.cur k (List.length l)=some v:=hs1.2;rw[hln,hv0] at hcur;obtain rfl:=aSo hcur;obtain⟨adr,capr,hvr,hler,hlr⟩:=EW hs2.1;obtain⟨adl,capl,hvl,hlel,hll⟩:=EW hs1.1;by_cases hm:List.length r=0
     ·
      obtain rfl:r=[]:=aSQ hm;have hlr:List.length l+List.length ([]:List b1.den)=n:=by rw[hln];rfl
      have hget: ∀i,pZ (qS [(k,pW.grow e' c (List.length l+List.length ([]:List b1.den)))] H) i=pZ H i:=by
       intro i;simp only[qS,pZ];by_cases hi:k=i
       .subst hi;rw[aSj rfl,hlr];exact hk.symm
       rw[aSl hi]
      have hkeep:rE g w H ⟨[List.length l=n,(List.length l+List.length ([]:List b1.den))*by'<=140737488355328],(.val (.list b1) (l++[]),some k),[(k,.grow e' c (List.length l+List.length ([]:List b1.den)))],[k]⟩ g w v0:=by
       refine⟨.refl _ _,?_,⟨fun i b h=>hH.blk i b ((hget i).symm.trans h),fun i j bi bj b o' hij h1 h2=>hH.dis i j bi bj b o' hij ((hget i).symm.trans h1) ((hget j).symm.trans h2),hH.sl,hH.tab.1,fun i blk b o' h ho'=>hH.tab.2 i blk b o' ((hget i).symm.trans h) ho'⟩,.refl _ _ _,fun i blk b o' hi hg ho'=> .inr ⟨i,blk,hi,(hget i).symm.trans hg,ho'⟩,fun _ _=>⟨rfl,rfl⟩,fun i u' y us h=> .inl ⟨y,us,(hget i).symm.trans h⟩⟩;rw[List.append_nil];exact hs1
      refine rC.value (v:=v0) (w':=w) ?_ hkeep;rw[hx,hv,hvr,hvl];have ha0:(#[Value.slice adl (List.length l) capl,Value.slice adr (List.length ([]:List b1.den)) capr]:Array pO)[0]? =some (.slice adl (List.length l) capl):=rfl;have ha1:(#[Value.slice adl (List.length l) capl,Value.slice adr (List.length ([]:List b1.den)) capr]:Array pO)[1]? =some (.slice adr 0 capr):=rfl;have ht0:(#[t,t]:Array TypeId)[0]? =some t:=rfl;have ht1:(#[t,t]:Array TypeId)[1]? =some t:=rfl;simp only[builtin,Builtin.append_,ht0,ht1,ha0,ha1,aSw,aSF h2,aSr,aSI,sizeOf,typeInfo,aTf,hei];cases adr<;>cases adl<;>simp [Builtin.lenOf,Builtin.firstCells,loadCells,loadCellsFrom,storeCells,hlel]
     obtain⟨b,off,rfl,hL⟩: ∃b o,adr=some ⟨b,o,none⟩/\yJ (Rd g w b1) w g.S b1.cells b o r:=by
      rcases hlr with rfl|h
      .exact absurd rfl hm
      exact h
     obtain⟨news,hF,hra,_⟩:=Q7 hL;have hxs:tV (Rd g w b1) b1.cells l xs:=by
      by_cases h0:List.length l=0
      .obtain rfl:l=[]:=aSQ h0;have:xs=[]:=aSQ (by rw[hown.1,<-hln];simp);exact this
      rcases hll with rfl|⟨b0,off0,rfl,hL0⟩
      .exact absurd rfl h0
      obtain⟨ls,hF0,hra0,_⟩:=Q7 hL0;rcases hown.2 with⟨e1,e2⟩ |⟨q,cap,cur,e1,e2⟩
      .exact absurd (hln.trans e2) h0
      rw[hvl] at e1;simp only[aTX,aSk,Addr.mk.injEq] at e1;obtain⟨⟨rfl,rfl,_⟩,_,rfl⟩:=e1;have hvn:v0= .slice (some ⟨b0,0,none⟩) n capl:=by rw[hvl,hln]
      have hrx:=a0g (hvn▸hown);have:ls=xs:=by
       have hl1:=KM hF0;have hl2:=hown.1;apply List.ext_getElem?;intro j;by_cases hj:j<ls.length
       .have h1:=hra0 j ls[j] (aSu hj);have hj':j<xs.length:=by rw[hl2,hcc,<-hln,<-hl1];exact hj
        have h2:=hrx j xs[j] (aSu hj');rw[h1] at h2;rw[aSu hj,aSu hj',aSo h2]
       rw[aTF pC,aTF (by rw[hl2,hcc,<-hln,<-hl1];omega)]
      rw[<-this];exact hF0
     obtain⟨q,cap,w',hrun,hown',hq,hg,hcap,hcell⟩:=aAs (P:=P) w t o.type e' ei (xQ b1) c by' h2 hei hz.2.2 (by rw[hz.1,hcc]) hz.2.1 (by
      have:=sL (EV (KQ g w b1));rw[hcc];simpa using this) v0 n xs hown ⟨b,off,none⟩ (List.length r) capr news (by rw[KM hF,hcc]) (fun j u hu=>by rw[aTp];exact hra j u hu) (a0f (fun _ _ h=>zY h) hF) pC
      (by
       have:=Nat.mul_le_mul_left (List.length l+List.length r) hb1;unfold maxLen;omega) (by rw[<-hln];exact hby)
     refine rC.value (v:= .slice (some ⟨q,0,none⟩) (n+List.length r) cap) (w':=w') ?_ (by
      have:=rE.append (side:=[List.length l=n,(List.length l+List.length r)*by'<=140737488355328]) (rds:=[k]) hH hk hcc hln hv0 hown hnone hseal (hcc▸hxs) (hcc▸hF) pC hown' hq hg hcap hcell;rw[hln];rw[hln] at this;exact this)
     rw[hx,hv,hvr];simp only[builtin,aSw,hrun,aSr,aSI]
    cases hr
   cases hr
  cases hr
 cases hr
end
def A1:Ty->TypeDesc
 | .int k=> .int k
 | .str=> .string
 |_=> .bool
theorem a0s {P:Program}{t:TypeId}{ti:TI}(h:sY P t ti) (hk:DD ti.ty=true):P.underlying t=some (A1 ti.ty):=by
 have h2:=h.2;unfold wX at h2;obtain⟨ty,el,by',ar,ls⟩:=ti;cases ty<;>simp only[DD,aTy] at hk<;>exact h2
theorem aJH {g:Gh}{w:pN}{k:Ty}(hk:DD k=true) {a x:k.den}{v u:pO}(ha:sW g w k a v) (hx:sW g w k x u):Instr.sameNow (A1 k) v u=some (G0 k a x)/\(G0 k a x=true->u=v):=by
 cases k with
 |int k=>
  rw[wF ha,wF hx];simp only[A1,Instr.sameNow,aTQ,G0];refine⟨?_,fun h=>?_⟩
  .congr 1
  .rw[aS1 h]
 |str=>
  rw[x6 ha,x6 hx];simp only[A1,Instr.sameNow,G0];refine⟨?_,fun h=>?_⟩
  .congr 1;rw[aTZ,MapKept.bytes_beq,aSs];constructor
   .intro h;have:=aSL (fun z:ByteArray=>z.data.toList) h;simpa using this
   intro h;rw[h]
  .rw[aS1 h]
 |bool=>
  rw[vE ha,vE hx];simp only[A1,Instr.sameNow,G0];refine⟨trivial,fun h=>?_⟩;rw[aTB.1 h]
 |_=>simp [DD] at hk
theorem a0t {g:Gh}{w:pN}{k v:Ty}(hk:DD k=true) {a:k.den}{key:pO}(ha:sW g w k a key): ∀{l:List (k.den×v.den)}{es:List MapEntry}(i:Nat),DE g w k v l es->
  (ET k v l a=false->Instr.findNow (A1 k) key es i=some none/\sF k v l a=v.zero/\∀b val born,sW g w v b val->DE g w k v (sT k v a b l) (es++[⟨key,val,born⟩]))/\
  (ET k v l a=true->∃j e,es[j]? =some e/\Instr.findNow (A1 k) key es i=some (some (i+j,e.val))/\sW g w v (sF k v l a) e.val/\e.key=key/\∀b val,sW g w v b val->DE g w k v (sT k v a b l) (es.modify j fun e=>{e with key:=key,val:=val}))
 |[],es,i,h=>by
  rw[show es=[] from h];exact⟨fun _=>⟨rfl,rfl,fun b val born hb=>⟨_,[],rfl,ha,hb,rfl⟩⟩,fun h=>by simp [ET] at h⟩
 |(x,y)::l,_,i,⟨e,es',rfl,h1,h2,h3⟩=>by
  obtain⟨s1,s2⟩:=aJH hk ha h1;cases hq:G0 k a x with
  |true=>
   rw[hq] at s1;refine⟨fun h=>by simp [ET,hq] at h,fun _=>⟨0,e,rfl,?_,?_,s2 hq,fun b val hb=>?_⟩⟩
   .simp only[Instr.findNow,s1,aTu]
   .simp only[sF,hq,aTQ];exact h2
   .simp only[sT,hq,aTQ];exact⟨_,es',rfl,ha,hb,h3⟩
  |false=>
   rw[hq] at s1;obtain⟨f1,f2⟩:=a0t (v:=v) hk ha (i+1) h3;refine⟨fun h=>?_,fun h=>?_⟩
   .simp only[ET,hq] at h;obtain⟨g1,g2,g3⟩:=f1 (by simpa using h);refine⟨by simp only[Instr.findNow,s1];exact g1,by simp only[sF,hq];simpa using g2,fun b val born hb=>?_⟩;simp only[sT,hq];exact⟨e,_,rfl,h1,h2,g3 b val born hb⟩
   simp only[ET,hq] at h;obtain⟨j,e',g1,g2,g3,g4,g5⟩:=f2 (by simpa using h);refine⟨j+1,e',by simpa using g1,by simp only[Instr.findNow,s1];rw[g2];congr 3;omega,by simp only[sF,hq];simpa using g3,g4,fun b val hb=>?_⟩;simp only[sT,hq];exact⟨e,_,rfl,h1,h2,g5 b val hb⟩
def KU (ok:Bool) (z:pO):Option (Nat×pO)->pO
 |some (_,v)=>if ok then .tuple #[v,.bool true] else v
 |none=>if ok then .tuple #[z,.bool false] else z
section
variable {P:Program}{o:Oper}{a:Act}{g:Gh}{w:pN}{H:s5}{T:sI}(hT:wY P T) (hH:s9 g w H)
include hT hH
theorem rE.newMap {side:List Prop}{rds:pM}{base:Nat}{k v:Ty}(hf:g.J base=none) (hc:g.cur base=fun _=>none):
  rE g w H ⟨side,(.val .mp (some base),none),[(base,.map k v [])],rds⟩ (g.var base w.heap.size none) (w.alloc (.map #[] 0)) (.map (some w.heap.size)):=by
 have hJ:(g.var base w.heap.size none).J base=some ⟨w.heap.size,0,none⟩:=by simp [Gh.var]
 have le:Le g w (g.var base w.heap.size none) (w.alloc (.map #[] 0)):=⟨fun _ _ h=>h,fun b o h=>aSH (a:=⟨b,o,none⟩) (aSU _ _ _ (hH.sl b o h)),fun i p h=>by
  show (if i=base then _ else _)=_;rw[aSl (fun e1=>by rw[e1,hf] at h;cases h)];exact h,fun _ _ _ h=>h⟩
 have fr:Fr (sK g H (qB [(base,pW.map k v [])])) w (w.alloc (.map #[] 0)) g.S (g.var base w.heap.size none).S:=
  ⟨rfl,rfl,rfl,by simp,fun b hb _=>aSU _ _ _ hb,fun b o hb _=>⟨aSH (a:=⟨b,o,none⟩) (aSU _ _ _ hb),aS8 (a:=⟨b,o,none⟩) (aSU _ _ _ hb)⟩,fun b o h=> .inl h,fun b s h=> .inl ((BN (aSU _ _ _ (BM h))).trans h)⟩
 have gho: ∀i,i∉qB [(base,pW.map k v [])]->(g.var base w.heap.size none).J i=g.J i/\(g.var base w.heap.size none).cur i=g.cur i:=fun i hi=>⟨by
  show (if i=base then _ else _)=_;rw[aSl (fun e1=>hi (by simp [qB,e1]))],rfl⟩
 have get: ∀i blk,i∈qB [(base,pW.map k v [])]->pZ (qS [(base,pW.map k v [])] H) i=some blk->i=base/\blk= .map k v []:=by
  intro i blk hi hg;simp only[qB,aSC] at hi;subst hi;simp only[qS,pZ,aTQ,aSk] at hg;exact⟨rfl,hg.symm⟩
 have perm: ∀i blk b o,i∈qB [(base,pW.map k v [])]->pZ (qS [(base,pW.map k v [])] H) i=some blk->s8 (g.var base w.heap.size none) i blk b o->w.heap.size<=b\/sK g H (qB [(base,pW.map k v [])]) b o:=by
  intro i blk b o hi hg ho;obtain⟨rfl,rfl⟩:=get i blk hi hg;obtain⟨p,hp,h1⟩:=ho;rw[hJ] at hp;obtain rfl:=aSo hp;exact .inl (aTN h1.symm)
 refine⟨le,⟨.inr ⟨rfl,_,hJ,rfl⟩,trivial⟩,hH.upd le fr perm gho (fun i blk hi hg=>?_) (fun i j bi bj b o hi hj hij hgi hgj _ _=>hij ((get i bi hi hgi).1.trans (get j bj hj hgj).1.symm)) (fun b o h=>aSW (hH.sl b o h) pE),fr,perm,gho,fun i u' y us h=>by
  simp only[qS,pZ] at h;split at h
  .cases h
  exact .inl ⟨y,us,h⟩⟩
 obtain⟨rfl,rfl⟩:=get i blk hi hg;refine⟨⟨w.heap.size,0,none⟩,#[],0,hJ,rfl,?_,rfl,fun o hs=>aT0 _ (hH.sl _ _ hs)⟩;show (w.heap.push (.map #[] 0))[w.heap.size]? =_;rw[aUd]
theorem aJI {t:TypeId}{r:Option Operand}(ho:o.op= .makeMap t r) {base:Nat}{e:qJ}(hr:ZF T base (rO T t) r=some e) (hf:xR g base e):rC P o a g w H e:=by
 generalize hst:rO T t=ot at hr;unfold ZF at hr;split at hr
 .rename_i el fl ar ls_;unfold a9J at hr;split at hr
  .split at hr
   .cases hr;have hfr:=hf base (by simp [qB]) (aSE _);refine rC.value (v:= .map (some w.heap.size)) (w':=w.alloc (.map #[] 0)) ?_ (rE.newMap hT hH hfr.1 (funext hfr.2));unfold execOp;rw[ho];simp only[Instr.makeMap,aSw,run_newObj,aSr,aSI,Option.map_none];rfl
   cases hr
  cases hr
 cases hr
theorem aJJ {xt el fl:TypeId}{ok:Bool}{r:Nat}{es:Array MapEntry}{cl:Nat}{key z res:pO}{kd:TypeDesc}(hm:P.underlying xt=some (.map el fl)) (hb:w.heap[r]? =some (.map es cl)) (hkd:P.underlying el=some kd) (hsim: ∀ty,kd≠.interface ty) (hna: ∀n t,kd≠.array n t) (hns: ∀f,kd≠.struct f)
  {q:Option (Nat×pO)}(hq:Instr.findNow kd key es.toList 0=some q) (hz:(zeroValue fl).run P w= .ok z w)
  (hres:res=KU ok z q):(Instr.lookup xt (.map (some r)) key ok).run P w= .ok res w:=by
 have hck: ∀em,(Instr.checkKey em 10000 el key).run P w= .ok () w:=by
  intro em;unfold Instr.checkKey;simp only[aSw,aSF hkd,aSr];cases kd<;>first|rfl|(exact absurd rfl (hsim _)) |(exact absurd rfl (hna _ _)) |(exact absurd rfl (hns _))
 have hfk:(Instr.findKey el key es.toList).run P w= .ok q w:=by
  unfold Instr.findKey;simp only[aSw,aSF hkd,aSr,hq,aSI]
 subst hres;unfold Instr.lookup;simp only[aSw,aSF hm,aSr,MapKept.run_getObj_map hb,aSI,hck,hfk];cases q with
 |none=>cases ok<;>simp [hz,aSw,aSr,KU]
 |some q=>cases ok<;>simp [aSw,aSr,KU]
theorem aJK {xt el fl:TypeId}{ok:Bool}{key z:pO}{kd:TypeDesc}(hm:P.underlying xt=some (.map el fl)) (hkd:P.underlying el=some kd) (hsim: ∀ty,kd≠.interface ty) (hna: ∀n t,kd≠.array n t) (hns: ∀f,kd≠.struct f)
  (hz:(zeroValue fl).run P w= .ok z w):(Instr.lookup xt (.map none) key ok).run P w= .ok (KU ok z none) w:=by
 have hck: ∀em,(Instr.checkKey em 10000 el key).run P w= .ok () w:=by
  intro em;unfold Instr.checkKey;simp only[aSw,aSF hkd,aSr];cases kd<;>first|rfl|(exact absurd rfl (hsim _)) |(exact absurd rfl (hna _ _)) |(exact absurd rfl (hns _))
 have hfk:(Instr.findKey el key ([]:List MapEntry)).run P w= .ok none w:=by
  unfold Instr.findKey;simp only[aSw,aSF hkd,aSr,Instr.findNow,aSI]
 unfold Instr.lookup;simp only[aSw,aSF hm,aSr,aSI,hck,hfk];cases ok<;>simp [hz,aSw,aSr,KU,hfk]
theorem rE.updMap {side:List Prop}{rds:pM}{i:Nat}{k v:Ty}{l l':List (k.den×v.den)}{p:Pl}{es es':Array MapEntry}{cl cl':Nat}(hi:pZ H i=some (.map k v l)) (hp:g.J i=some p) (hp0:p.2=0) (hb:w.heap[p.1]? =some (.map es cl)) (hS: ∀o,¬g.S p.1 o) (hM:DE g w k v l' es'.toList):
  rE g w H ⟨side,(.any,none),[(i,.map k v l')],rds⟩ g {w with heap:=w.heap.setIfInBounds p.1 (.map es' cl')} undef:=by
 have hlt:p.1<w.heap.size:=(aSO.1 hb).1;have hoth: ∀b,b≠p.1->(w.heap.setIfInBounds p.1 (.map es' cl'))[b]? =w.heap[b]? :=fun b hne=>by rw[aTs (Ne.symm hne)]
 have hown: ∀o,sK g H (qB [(i,pW.map k v l')]) p.1 o:=fun o=>⟨i,_,by simp [qB],hi,p,hp,rfl⟩;have le:Le g w g {w with heap:=w.heap.setIfInBounds p.1 (.map es' cl')}:=⟨fun _ _ h=>h,fun b o h=>aSH (a:=⟨b,o,none⟩) (hoth b (fun e=>hS o (e▸h))),fun _ _ h=>h,fun _ _ _ h=>h⟩
 have fr:Fr (sK g H (qB [(i,pW.map k v l')])) w {w with heap:=w.heap.setIfInBounds p.1 (.map es' cl')} g.S g.S:=
  ⟨rfl,rfl,rfl,by simp,fun b _ hn=>hoth b (fun e=>hn 0 (e▸hown 0)),fun b o _ hn=>⟨aSH (a:=⟨b,o,none⟩) (hoth b (fun e=>hn (e▸hown o))),aS8 (a:=⟨b,o,none⟩) (hoth b (fun e=>hn (e▸hown o)))⟩,fun b o h=> .inl h,fun b s h=>(by
   by_cases e:b=p.1
   .exact .inr fun o=>e▸hown o
   exact .inl ((BN (hoth b e)).trans h))⟩
 have get: ∀j blk,j∈qB [(i,pW.map k v l')]->pZ (qS [(i,pW.map k v l')] H) j=some blk->j=i/\blk= .map k v l':=by
  intro j blk hj hg;simp only[qB,aSC] at hj;subst hj;simp only[qS,pZ,aTQ,aSk] at hg;exact⟨rfl,hg.symm⟩
 have perm: ∀j blk b o,j∈qB [(i,pW.map k v l')]->pZ (qS [(i,pW.map k v l')] H) j=some blk->s8 g j blk b o->w.heap.size<=b\/sK g H (qB [(i,pW.map k v l')]) b o:=by
  intro j blk b o hj hg ho;obtain⟨rfl,rfl⟩:=get j blk hj hg;obtain⟨q,hq,rfl⟩:=ho;rw[hp] at hq;obtain rfl:=aSo hq;exact .inr (hown o)
 refine⟨le,⟨trivial,trivial⟩,hH.upd le fr perm (fun _ _=>⟨rfl,rfl⟩) (fun j blk hj hg=>?_) (fun j j' bi bj b o hj hj' hij hgi hgj _ _=>hij ((get j bi hj hgi).1.trans (get j' bj hj' hgj).1.symm)) (fun b o h=>by simpa using hH.sl b o h),fr,perm,fun _ _=>⟨rfl,rfl⟩,fun j u' y us h=>by
  simp only[qS,pZ] at h;split at h
  .cases h
  exact .inl ⟨y,us,h⟩⟩
 obtain⟨rfl,rfl⟩:=get j blk hj hg;exact⟨p,es',cl',hp,hp0,by simp [aT6,hlt],ZQ le hM,hS⟩
theorem aAE {i:Nat}{k:pL}{v:pO}(h:rF g w (.val .mp (some i),k) v): ∃p,g.J i=some p/\v= .map (some p.1):=by
 obtain⟨p,h1,e⟩:=wZ rfl h.1;simp only[aS4,and_true] at e;exact⟨p,h1,e⟩
theorem a0u {k:Ty}:(∀ty,A1 k≠.interface ty)/\(∀n t,A1 k≠.array n t)/\(∀f,A1 k≠.struct f):=by
 cases k<;>exact⟨fun _ h=>by simp [A1] at h,fun _ _ h=>by simp [A1] at h,fun _ h=>by simp [A1] at h⟩
theorem aJL {t:TypeId}{x y:Operand}{ok:Bool}(ho:o.op= .lookup t x y ok) {sx sy:pX}(hx:rF g w sx (a.eval x)) (hy:rF g w sy (a.eval y)) {e:qJ}(hr:U7 T H ok (rO T t) sx sy=some e):rC P o a g w H e:=by
 generalize hst:rO T t=ot at hr;unfold U7 at hr;split at hr
 .rename_i el fl ar ls_ i kk;generalize hk:rO T el=ok1 at hr;generalize hv:rO T fl=ok2 at hr;unfold ZG at hr;split at hr
  .rename_i kt vt k a' _;split at hr
   .rename_i hkt;unfold U6 at hr;split at hr
    .rename_i k' v' l hb;split at hr
     .rename_i hkv;obtain⟨rfl,rfl⟩:=hkv;split at hr
      .rename_i hkey;obtain⟨p,es,cl,hp,hp0,hh,hM,hS⟩:=hH.blk i _ hb;obtain⟨p',hp',hxv⟩:=aAE hT hH hx;rw[hp] at hp';obtain rfl:=aSo hp';have hm:=(sP hT hst).2;simp only[wX] at hm;have hkd:=a0s (sP hT hk) (hkt▸hkey);obtain⟨iv,hi1,hi2,hi3⟩:=DG (sP hT hv);have hz:(zeroValue fl).run P w= .ok (xQ vt.ty) w:=by
        simp only[zeroValue,typeInfo,aSw,aTf,hi1,hi3,aSr,aSI]
       obtain⟨f1,f2⟩:=a0t (v:=vt.ty) hkey hy.1 0 hM;rw[<-hkt] at hkd;obtain⟨p1,p2,p3⟩:=a0u hT hH (k:=k);have go: ∀{q res},Instr.findNow (A1 k) (a.eval y) es.toList 0=some q->res=KU ok (xQ vt.ty) q->(execOp a.eval o).run P w= .ok (.value res) w:=by
        intro q res h1 h2;unfold execOp;rw[ho];simp only[hxv,aSw,aJJ hT hH hm hh hkd p1 p2 p3 h1 hz h2,aSr,aSI]
       cases hmh:ET k vt.ty l a' with
       |false=>
        obtain⟨g1,g2,_⟩:=f1 hmh;cases ok with
        |true=>
         cases hr;refine rC.pure hH (v:= .tuple #[xQ vt.ty,.bool false]) (go g1 rfl) ?_;simp only[MN,hmh,g2];exact⟨[_,_],rfl,_,[_],rfl,KQ g w _,trivial,_,[],rfl,vF g w false,trivial,rfl⟩
        |false=>
         cases hr;refine rC.pure hH (v:=xQ vt.ty) (go g1 rfl) ?_;simp only[MN,g2];exact KQ g w _
       |true=>
        obtain⟨j,e',g1,g2,g3,g4,g5⟩:=f2 hmh;cases ok with
        |true=>
         cases hr;refine rC.pure hH (v:= .tuple #[e'.val,.bool true]) (go g2 rfl) ?_;simp only[MN,hmh];exact⟨[_,_],rfl,_,[_],rfl,g3,trivial,_,[],rfl,vF g w true,trivial,rfl⟩
        |false=>
         cases hr;refine rC.pure hH (v:=e'.val) (go g2 rfl) ?_;simp only[MN];exact g3
      cases hr
     cases hr
    cases hr
   cases hr
  cases hr
 .rename_i el fl ar ls_ kk;generalize hk:rO T el=ok1 at hr;generalize hv:rO T fl=ok2 at hr;unfold a9K at hr;split at hr
  .rename_i kt vt k a' _;split at hr
   .rename_i hkt;split at hr
    .rename_i hkey;have hxv:a.eval x= .map none:=by
      have e1:=wZ rfl hx.1;simpa[Rd,KL] using e1
     have hm:=(sP hT hst).2;simp only[wX] at hm;have hkd:=a0s (sP hT hk) (hkt▸hkey);obtain⟨iv,hi1,hi2,hi3⟩:=DG (sP hT hv);have hz:(zeroValue fl).run P w= .ok (xQ vt.ty) w:=by
      simp only[zeroValue,typeInfo,aSw,aTf,hi1,hi3,aSr,aSI]
     rw[<-hkt] at hkd;obtain⟨p1,p2,p3⟩:=a0u hT hH (k:=k);have go:(execOp a.eval o).run P w= .ok (.value (KU ok (xQ vt.ty) none)) w:=by
      unfold execOp;rw[ho];simp only[hxv,aSw,aJK hT hH hm hkd p1 p2 p3 hz,aSr,aSI]
     cases ok with
     |true=>
      cases hr;exact rC.pure hH (v:= .tuple #[xQ vt.ty,.bool false]) go ⟨[_,_],rfl,_,[_],rfl,KQ g w _,trivial,_,[],rfl,vF g w false,trivial,rfl⟩
     |false=>
      cases hr;exact rC.pure hH (v:=xQ vt.ty) go (KQ g w _)
    cases hr
   cases hr
  cases hr
 cases hr
theorem aJM {g:Gh}{w:pN}{k:Ty}(hk:DD k=true) {x:k.den}{v:pO}(h:sW g w k x v) (n:Nat):Instr.sameBits n v v=true:=by
 cases k with
 |int k=>rw[wF h];cases n<;>simp [Instr.sameBits]
 |str=>rw[x6 h];cases n<;>simp [Instr.sameBits,MapKept.bytes_beq]
 |bool=>rw[vE h];cases n<;>simp [Instr.sameBits]
 |_=>simp [DD] at hk
omit hT hH in
theorem aAF {T:sI}{ti:Option TI}{s:pX}{v:pO}(h:rF g w s v):rF g w (U9 T ti s) v:=by
 unfold U9;split
 .unfold a9L;split
  .rename_i f x _;refine⟨.inr ⟨rfl,?_⟩,trivial⟩;rcases h.1 with⟨h1,_⟩ |⟨h1,vs,h2,h3⟩
   .cases h1
   rw[show vs=[] from h2] at h3;exact h3
  exact h
 exact h
theorem aAG {t:TypeId}{m x y:Operand}(ho:o.op= .mapUpdate t m x y\/o.op= .insert t m x y) {sm sx sy:pX}(hm:rF g w sm (a.eval m)) (hx:rF g w sx (a.eval x)) (hy:rF g w sy (a.eval y)) {e:qJ}(hr:N2 T H (rO T t) sm sx sy=some e):rC P o a g w H e:=by
 generalize hst:rO T t=ot at hr;unfold N2 at hr;split at hr
 .rename_i el fl ar ls_ i kk;generalize hk:rO T el=ok1 at hr;unfold U8 at hr;split at hr
  .rename_i kt k a' _ u b _;split at hr
   .rename_i hkt;unfold N1 at hr;split at hr
    .rename_i k' v' l hb;split at hr
     .rename_i hkv;obtain⟨rfl,rfl⟩:=hkv;split at hr
      .rename_i hkey;cases hr;obtain⟨p,es,cl,hp,hp0,hh,hM,hS⟩:=hH.blk i _ hb;obtain⟨p',hp',hxv⟩:=aAE hT hH hm;rw[hp] at hp';obtain rfl:=aSo hp';have hmt:=(sP hT hst).2;simp only[wX] at hmt;have hkd:=a0s (sP hT hk) (hkt▸hkey);rw[<-hkt] at hkd;obtain⟨p1,p2,p3⟩:=a0u hT hH (k:=k);have hck:(Instr.checkKey false 10000 el (a.eval x)).run P w= .ok () w:=by
        unfold Instr.checkKey;simp only[aSw,aSF hkd,aSr];generalize A1 k=kd at p1 p2 p3;cases kd<;>first|rfl|(exact absurd rfl (p1 _)) |(exact absurd rfl (p2 _ _)) |(exact absurd rfl (p3 _))
       have hfk: ∀{q},Instr.findNow (A1 k) (a.eval x) es.toList 0=some q->(Instr.findKey el (a.eval x) es.toList).run P w= .ok q w:=by
        intro q hq;unfold Instr.findKey;simp only[aSw,aSF hkd,aSr,hq,aSI]
       obtain⟨f1,f2⟩:=a0t (v:=u) hkey hx.1 0 hM;cases hmh:ET k u l a' with
       |false=>
        obtain⟨g1,_,g3⟩:=f1 hmh;refine rC.skip (w':={w with heap:=w.heap.setIfInBounds p.1 (.map (es.push ⟨a.eval x,a.eval y,cl⟩) (cl+1))}) ?_ (rE.updMap hT hH hb hp hp0 hh hS ?_)
        .unfold execOp;rcases ho with ho|ho<;>rw[ho]<;>
          simp only[Instr.mapUpdate,hxv,aSw,aSF hmt,aSr,MapKept.run_getObj_map hh,hck,hfk g1,MapKept.run_setObj_map _ hh,aSI]
        .simp only[MN,Array.toList_push];exact g3 b _ _ hy.1
       |true=>
        obtain⟨j,e',g1,g2,g3,g4,g5⟩:=f2 hmh;rw[aSS] at g2;refine rC.skip (w':={w with heap:=w.heap.setIfInBounds p.1 (.map (es.modify j fun e=>{e with key:=a.eval x,val:=a.eval y}) cl)}) ?_ (rE.updMap hT hH hb hp hp0 hh hS ?_)
        .have hj:es[j]? =some e':=by rw[<-aTm];exact g1
         unfold execOp;rcases ho with ho|ho<;>rw[ho]<;>
          simp only[Instr.mapUpdate,hxv,aSw,aSF hmt,aSr,MapKept.run_getObj_map hh,hck,hfk g2,hj,Option.map_some,aTJ,g4,Instr.keyThatStays,aJM hT hH hkey hx.1,aTQ,MapKept.run_setObj_map _ hh,aSI]
        simp only[MN,Array.toList_modify];exact g5 b _ hy.1
      cases hr
     cases hr
    cases hr
   cases hr
  cases hr
 cases hr
end
theorem aAH {P:Program}{w:pN}{r:Nat}{s:ByteArray}{n:Nat}(hb:w.heap[r]? =some (.stringIter s n)):(getObj r).run P w= .ok (.stringIter s n) w:=by
 simp [getObj,Sem.run,hb]
theorem aJN {P:Program}{w:pN}{r:Nat}{s:ByteArray}{n:Nat}(o:Obj) (hb:w.heap[r]? =some (.stringIter s n)):(setObj r o).run P w= .ok () {w with heap:=w.heap.setIfInBounds r o}:=by
 simp [setObj,Sem.run,hb]
section
variable {P:Program}{o:Oper}{a:Act}{g:Gh}{w:pN}{H:s5}{T:sI}(hT:wY P T) (hH:s9 g w H)
include hT hH
theorem rE.newIter {side:List Prop}{rds:pM}{base:Nat}{s:p8}(hf:g.J base=none) (hc:g.cur base=fun _=>none):
  rE g w H ⟨side,(.val .ref (some (base,0)),none),[(base,.iter s 0)],rds⟩ (g.var base w.heap.size none) (w.alloc (.stringIter ⟨s.toArray⟩ 0)) (.pointer (some ⟨w.heap.size,0,none⟩)):=by
 have hJ:(g.var base w.heap.size none).J base=some ⟨w.heap.size,0,none⟩:=by simp [Gh.var]
 have le:Le g w (g.var base w.heap.size none) (w.alloc (.stringIter ⟨s.toArray⟩ 0)):=⟨fun _ _ h=>h,fun b o h=>aSH (a:=⟨b,o,none⟩) (aSU _ _ _ (hH.sl b o h)),fun i p h=>by
  show (if i=base then _ else _)=_;rw[aSl (fun e1=>by rw[e1,hf] at h;cases h)];exact h,fun _ _ _ h=>h⟩
 have fr:Fr (sK g H (qB [(base,pW.iter s 0)])) w (w.alloc (.stringIter ⟨s.toArray⟩ 0)) g.S (g.var base w.heap.size none).S:=
  ⟨rfl,rfl,rfl,by simp,fun b hb _=>aSU _ _ _ hb,fun b o hb _=>⟨aSH (a:=⟨b,o,none⟩) (aSU _ _ _ hb),aS8 (a:=⟨b,o,none⟩) (aSU _ _ _ hb)⟩,fun b o h=> .inl h,fun b s h=> .inl ((BN (aSU _ _ _ (BM h))).trans h)⟩
 have gho: ∀i,i∉qB [(base,pW.iter s 0)]->(g.var base w.heap.size none).J i=g.J i/\(g.var base w.heap.size none).cur i=g.cur i:=fun i hi=>⟨by
  show (if i=base then _ else _)=_;rw[aSl (fun e1=>hi (by simp [qB,e1]))],rfl⟩
 have get: ∀i blk,i∈qB [(base,pW.iter s 0)]->pZ (qS [(base,pW.iter s 0)] H) i=some blk->i=base/\blk= .iter s 0:=by
  intro i blk hi hg;simp only[qB,aSC] at hi;subst hi;simp only[qS,pZ,aTQ,aSk] at hg;exact⟨rfl,hg.symm⟩
 have perm: ∀i blk b o,i∈qB [(base,pW.iter s 0)]->pZ (qS [(base,pW.iter s 0)] H) i=some blk->s8 (g.var base w.heap.size none) i blk b o->w.heap.size<=b\/sK g H (qB [(base,pW.iter s 0)]) b o:=by
  intro i blk b o hi hg ho;obtain⟨rfl,rfl⟩:=get i blk hi hg;obtain⟨p,hp,h1⟩:=ho;rw[hJ] at hp;obtain rfl:=aSo hp;exact .inl (aTN h1.symm)
 refine⟨le,⟨.inr ⟨rfl,_,hJ,rfl⟩,trivial⟩,hH.upd le fr perm gho (fun i blk hi hg=>?_) (fun i j bi bj b o hi hj hij hgi hgj _ _=>hij ((get i bi hi hgi).1.trans (get j bj hj hgj).1.symm)) (fun b o h=>aSW (hH.sl b o h) pE),fr,perm,gho,fun i u' y us h=>by
  simp only[qS,pZ] at h;split at h
  .cases h
  exact .inl ⟨y,us,h⟩⟩
 obtain⟨rfl,rfl⟩:=get i blk hi hg;refine⟨⟨w.heap.size,0,none⟩,hJ,rfl,?_,fun o hs=>aT0 _ (hH.sl _ _ hs)⟩;show (w.heap.push (.stringIter ⟨s.toArray⟩ 0))[w.heap.size]? =_;rw[aUd]
theorem rE.updIter {side:List Prop}{rds:pM}{i:Nat}{s:p8}{n n':Nat}{d:pX}{val:pO}{p:Pl}(hi:pZ H i=some (.iter s n)) (hp:g.J i=some p) (hp0:p.2=0) (hb:w.heap[p.1]? =some (.stringIter ⟨s.toArray⟩ n)) (hS: ∀o,¬g.S p.1 o) (hd:rF g {w with heap:=w.heap.setIfInBounds p.1 (.stringIter ⟨s.toArray⟩ n')} d val):
  rE g w H ⟨side,d,[(i,.iter s n')],rds⟩ g {w with heap:=w.heap.setIfInBounds p.1 (.stringIter ⟨s.toArray⟩ n')} val:=by
 have hlt:p.1<w.heap.size:=(aSO.1 hb).1;have hoth: ∀b,b≠p.1->(w.heap.setIfInBounds p.1 (.stringIter ⟨s.toArray⟩ n'))[b]? =w.heap[b]? :=fun b hne=>by rw[aTs (Ne.symm hne)]
 have hown: ∀o,sK g H (qB [(i,pW.iter s n')]) p.1 o:=fun o=>⟨i,_,by simp [qB],hi,p,hp,rfl⟩;have le:Le g w g {w with heap:=w.heap.setIfInBounds p.1 (.stringIter ⟨s.toArray⟩ n')}:=⟨fun _ _ h=>h,fun b o h=>aSH (a:=⟨b,o,none⟩) (hoth b (fun e=>hS o (e▸h))),fun _ _ h=>h,fun _ _ _ h=>h⟩
 have fr:Fr (sK g H (qB [(i,pW.iter s n')])) w {w with heap:=w.heap.setIfInBounds p.1 (.stringIter ⟨s.toArray⟩ n')} g.S g.S:=
  ⟨rfl,rfl,rfl,by simp,fun b _ hn=>hoth b (fun e=>hn 0 (e▸hown 0)),fun b o _ hn=>⟨aSH (a:=⟨b,o,none⟩) (hoth b (fun e=>hn (e▸hown o))),aS8 (a:=⟨b,o,none⟩) (hoth b (fun e=>hn (e▸hown o)))⟩,fun b o h=> .inl h,fun b s h=>(by
   by_cases e:b=p.1
   .exact .inr fun o=>e▸hown o
   exact .inl ((BN (hoth b e)).trans h))⟩
 have get: ∀j blk,j∈qB [(i,pW.iter s n')]->pZ (qS [(i,pW.iter s n')] H) j=some blk->j=i/\blk= .iter s n':=by
  intro j blk hj hg;simp only[qB,aSC] at hj;subst hj;simp only[qS,pZ,aTQ,aSk] at hg;exact⟨rfl,hg.symm⟩
 have perm: ∀j blk b o,j∈qB [(i,pW.iter s n')]->pZ (qS [(i,pW.iter s n')] H) j=some blk->s8 g j blk b o->w.heap.size<=b\/sK g H (qB [(i,pW.iter s n')]) b o:=by
  intro j blk b o hj hg ho;obtain⟨rfl,rfl⟩:=get j blk hj hg;obtain⟨q,hq,rfl⟩:=ho;rw[hp] at hq;obtain rfl:=aSo hq;exact .inr (hown o)
 refine⟨le,hd,hH.upd le fr perm (fun _ _=>⟨rfl,rfl⟩) (fun j blk hj hg=>?_) (fun j j' bi bj b o hj hj' hij hgi hgj _ _=>hij ((get j bi hj hgi).1.trans (get j' bj hj' hgj).1.symm)) (fun b o h=>by simpa using hH.sl b o h),fr,perm,fun _ _=>⟨rfl,rfl⟩,fun j u' y us h=>by
  simp only[qS,pZ] at h;split at h
  .cases h
  exact .inl ⟨y,us,h⟩⟩
 obtain⟨rfl,rfl⟩:=get j blk hj hg;exact⟨p,hp,hp0,by simp [aT6,hlt],hS⟩
theorem aJO {t:TypeId}{x:Operand}(ho:o.op= .range t x) {sx:pX}(hx:rF g w sx (a.eval x)) {base:Nat}{e:qJ}(hr:ZI base (rO T t) sx=some e) (hf:xR g base e):rC P o a g w H e:=by
 generalize hst:rO T t=ot at hr;unfold ZI at hr;split at hr
 .rename_i el b ar ls s k;cases hr;have hfr:=hf base (by simp [qB]) (aSE _);have hv:=x6 hx.1;have hu:=(sP hT hst).2;simp only[wX] at hu;refine rC.value (v:= .pointer (some ⟨w.heap.size,0,none⟩)) (w':=w.alloc (.stringIter ⟨s.toArray⟩ 0)) ?_ (rE.newIter hT hH hfr.1 (funext hfr.2));unfold execOp;rw[ho];simp only[Instr.range,hv,aSw,aSF hu,run_newObj,aSr,aSI];rfl
 cases hr
theorem aJP {x:Operand}{b:Bool}(ho:o.op= .next x b) {sx:pX}(hx:rF g w sx (a.eval x)) {e:qJ}(hr:UA H b sx=some e):rC P o a g w H e:=by
 unfold UA at hr;split at hr
 .rename_i i k;unfold ZJ at hr;split at hr
  .rename_i s n hb;cases hr;obtain⟨p,hp,hp0,hh,hS⟩:=hH.blk i _ hb;obtain⟨q,hq,hv⟩:=x7 hx.1;rw[hp] at hq;obtain rfl:=aSo hq;rw[hp0] at hv;by_cases hl:n<s.length
   .have hsz:n<(⟨s.toArray⟩:ByteArray).size:=by simpa[ByteArray.size] using hl
    refine rC.value (v:= .tuple #[.bool true,.int .i64 (n:Int),.int .i32 (wU s n)]) (w':={w with heap:=w.heap.setIfInBounds p.1 (.stringIter ⟨s.toArray⟩ (AN s n))}) ?_ (rE.updIter hT hH hb hp hp0 hh hS ⟨⟨fun _=>rfl,fun h=>absurd hl (of_decide_eq_false h)⟩,trivial⟩)
    unfold execOp;rw[ho];have hrn:AN s n=n+(Utf8.decode ⟨s.toArray⟩ n).2:=by unfold AN ZH;rw[aSj hl]
    simp only[Instr.next,hv,aSw,aAH hh,aSr,hsz,aTQ,aJN _ hh,aSI,hrn];rfl
   have hsz: ¬n<(⟨s.toArray⟩:ByteArray).size:=by simpa[ByteArray.size] using hl
   have hrn:AN s n=n:=by unfold AN;rw[aSl hl]
   have hw:({w with heap:=w.heap.setIfInBounds p.1 (.stringIter ⟨s.toArray⟩ (AN s n))}:pN)=w:=by
    rw[hrn];have:w.heap.setIfInBounds p.1 (.stringIter ⟨s.toArray⟩ n)=w.heap:=by
     obtain⟨h1,h2⟩:=aSO.1 hh;apply Array.ext_getElem?;intro j;rw[aT6];split
     .rename_i hj;subst hj;first|rw[hh] |rw[aSj h1,hh]
     rfl
    rw[this]
   refine rC.value (v:= .tuple #[.bool false]) (w':={w with heap:=w.heap.setIfInBounds p.1 (.stringIter ⟨s.toArray⟩ (AN s n))}) ?_ (rE.updIter hT hH hb hp hp0 hh hS ⟨⟨fun h=>absurd (aS1 h) hl,fun _=>rfl⟩,trivial⟩)
   rw[hw];unfold execOp;rw[ho];simp only[Instr.next,hv,aSw,aAH hh,aSr,hsz,aUj,aSI]
  cases hr
 cases hr
end
def qQ:Nat->List pW->s5
 |_,[]=>[]
 |c,b::L=>(c,b)::qQ (c+1) L
theorem V0: ∀(L:List pW) (c i:Nat),pZ (qQ c L) i=if c<=i then L[i-c]? else none
 |[],c,i=>by simp [qQ,pZ]
 |b::L,c,i=>by
  simp only[qQ,pZ];by_cases h:c=i
  .subst h;simp
  rw[aSl h,V0 L (c+1) i];by_cases h2:c<=i
  .rw[aSj h2,aSj pC];obtain⟨d,hd⟩: ∃d,i-c=d+1:=⟨i-c-1,pC⟩;rw[hd,aS7];congr 1;omega
  rw[aSl h2,aSl pC]
theorem x8 (L:List pW) (i:Nat):pZ (qQ 0 L) i=L[i]? :=by rw[V0];simp
def yB (g:Gh) (H:s5) (b o:Nat):Prop:= ∃i blk,pZ H i=some blk/\s8 g i blk b o
def vG (g:Gh) (w:pN):List pX->pJ->Prop
 |[],vs=>vs=[]
 |s::ss,vs=> ∃v vs',vs=v::vs'/\rF g w s v/\vG g w ss vs'
def QA (g:Gh) (w:pN):List pX->pO->Prop
 |[s],v=>rF g w s v
 |l,v=> ∃vs:pJ,v= .tuple vs.toArray/\vG g w l vs
structure EX (g:Gh) (w:pN) (L:List pW) (r:qI) (g':Gh) (w':pN) (v:pO):Prop where
 shut: ∀b o,g.S b o->g'.S b o/\w'.cell? ⟨b,o,none⟩=w.cell? ⟨b,o,none⟩
 heap:s9 g' w' (qQ 0 r.H)
 ret:QA g' w' r.ret v
 fr:Fr (yB g (qQ 0 L)) w w' g.S g'.S
 perm: ∀i blk b o,r.H[i]? =some blk->s8 g' i blk b o->w.heap.size<=b\/yB g (qQ 0 L) b o
 J: ∀(i:Nat) t x ts,L[i]? =some (.cells t x ts)->g'.J i=g.J i
 ty: ∀(i:Nat) t x ts u y us,L[i]? =some (.cells t x ts)->r.H[i]? =some (.cells u y us)->u=t
 Jt: ∀i p,i<L.length->g.J i=some p->g'.J i=some p
 cur: ∀i n u,i<L.length->g.cur i n=some u->g'.cur i n=some u
def yN (P:Program) (f:FuncId) (C:List pX->List pW->Option qI):Prop:=
 (∀args w,(callFunc f args).run P w= .ok (.enter f args) w)/\
 ∀(g:Gh) (w:pN) (args:List pX) (vals:pJ) (L:List pW) (r:qI),s9 g w (qQ 0 L)->vG g w args vals->C args L=some r->(∀p∈r.side,p)->
  Calls P f vals.toArray w (fun e w'=> ∃v g',e= .returned v/\EX g w L r g' w' v)
def V1 (P:Program) (f:FuncId) (F:(t:Ty)->List t.den->Option (List t.den)):Prop:=
 ∀(g:Gh) (w:pN) (e:TypeId) (t:Ty) (l l':List t.den) (v:pO) (n:Nat) (xs:pJ),EJ w->w.ownsRow 0 e t.cells v n xs->tV (Rd g w t) t.cells l xs->l.length=n->n<4611686018427387904->F t l=some l'->
  Calls P f #[v] w (fun en w'=>en= .returned (.tuple #[])/\l'.length=n/\∃xs',w'.ownsRow 0 e t.cells v n xs'/\tV (Rd g w t) t.cells l' xs'/\w.grownBy w' v.ownBlock)
def DH (P:Program) (Γ:sV):Prop:= ∀f s,f<1000000000->Γ f=some s->yN P f s.C/\∀F,s.row=some F->V1 P f F
theorem aAI {g:Gh}{w:pN}{t:Ty}{x:t.den}{v:pO}{k:pL}(h:rF g w (.val t x,k) v):rF g w (.val t x,EK t k) v:=by
 refine⟨h.1,?_⟩;cases t with
 |list u=>exact h.2
 |_=>trivial
theorem aJQ {t:Ty}{k:pL}: ∀c,EK t k=some c->∃u,t= .list u:=by
 cases t with
 |list u=>exact fun _ _=>⟨u,rfl⟩
 |_=>intro c h;cases h
theorem V2 {g g':Gh}{w:pN}(hS:g'.S=g.S) {t:Ty}(hp:t.pure=true) {x:t.den}{v:pO}{k k':pL}(hl: ∀c,k=some c->∃u,t= .list u) (h:rF g w (.val t x,k) v) (hk: ∀c,k=some c->∃c',k'=some c'/\∀n u,g.cur c n=some u->g'.cur c' n=some u) (hk0:k=none->k'=none):rF g' w (.val t x,k') v:=by
 have hv:sW g' w t x v:=h.1.imp (fun⟨a,cs,e,q⟩=>⟨a,cs,e,vU hS hp q⟩) (fun⟨a,q⟩=>⟨a,vU hS hp q⟩);refine⟨hv,?_⟩;cases k with
 |none=>rw[hk0 rfl];trivial
 |some c=>
  obtain⟨c',rfl,h2⟩:=hk c rfl;have h1:=h.2;cases t with
  |list u=>exact h2 _ _ h1
  |pair a b=>obtain⟨u,e⟩:=hl c rfl;cases e
  |_=>exact h1.elim
section
variable {P:Program}{o:Oper}{a:Act}{g:Gh}{w:pN}{H:s5}{T:sI}{Γ:sV}(hT:wY P T) (hΓ:DH P Γ) (hH:s9 g w H)
include hT hΓ hH
theorem a0v {ti:Option TI}{s:pX}{v:pO}(h:rF g w s v):rF g w (MO ti s) v:=by
 unfold MO;split
 .have:v= .slice none 0 0:=h.1;subst this;exact⟨.inr ⟨rfl,none,0,rfl,aSE _,.inl rfl⟩,trivial⟩
 .have e:v= .nilFunc:=by
   have:=wZ rfl h.1;simpa[Rd,I2] using this
  subst e;exact⟨.inr ⟨rfl,.inl ⟨rfl,rfl⟩⟩,trivial⟩
 exact h
theorem V3 {ρ:Operand->pX}: ∀{xs:List Operand}{ts:List TypeId},xs.length=ts.length->(∀x∈xs,rF g w (ρ x) (a.eval x))->vG g w (BJ T ρ xs ts) (xs.map a.eval)
 |[],[],_,_=>rfl
 |x::xs,t::ts,h,hx=>⟨_,_,rfl,a0v hT hΓ hH (hx x pE),V3 (by simpa using h) (fun y hy=>hx y (by simp [hy]))⟩
theorem aJR {l m:List pX}{vs us:pJ}(h:vG g w l vs) (k:vG g w m us):vG g w (l++m) (vs++us):=by
 induction l generalizing vs with
 |nil=>rw[show vs=[] from h];exact k
 |cons s l ih=>
  obtain⟨v,vs',rfl,h1,h2⟩:=h;exact⟨v,_,rfl,h1,ih h2⟩
theorem aAJ: ∀{caps:pH}{vs:pJ},yA g caps vs->vG g w (Z5 caps) vs
 |[],_,h=>h
 |(i,o)::caps,_,⟨p,vs',h1,h2,h3⟩=>⟨_,_,h2,⟨.inr ⟨rfl,p,h1,rfl⟩,trivial⟩,aAJ h3⟩
end
theorem V4 {P:Program}{o:Oper}{a:Act}{f:FuncId}{fop:Operand}{args:Array Operand}{tys:Array TypeId}(ho:o.op= .call ⟨.value fop,args,tys⟩) {caps:pJ}(hf:a.eval fop= .func (.func f) #[] caps.toArray)
  (hen: ∀args w,(callFunc f args).run P w= .ok (.enter f args) w) {w:pN}{K:Act->pN->Prop}{Q:Exit->Act->pN->Prop}
  (h:Calls P f ((args.toList.map a.eval)++caps).toArray w (fun e w'=> ∃v,e= .returned v/\K (a.put o.dst v) w')):o.wp P a w K Q:=by
 unfold Oper.wp;have:(execOp a.eval o).run P w= .ok (.enter f ((args.toList.map a.eval)++caps).toArray) w:=by
  unfold execOp;rw[ho];simp only[resolve,hf,Deferred.ofValue,aSw,aSI,aSr,invoke];rw[hen];congr 2;apply aTn.1;simp
 rw[this];unfold Oper.upon;refine h.mono fun e w' ⟨v,he,hk⟩=>?_;subst he;exact hk
def uW (g:Gh):Option rK->Option Pl
 |some (.box i _ _ _ o)=>(g.J i).map fun p=>⟨p.1,p.2+o,p.3⟩
 |some (.tok k)=>g.J k
 |none=>none
def zO (g:Gh):Option rK->Nat->Option pO
 |some (.tok k),n=>g.cur k n
 |_,_=>none
def uX (g:Gh) (ws:List rK):Gh:=⟨g.S,fun c=>uW g ws[c]?,fun c n=>zO g ws[c]? n⟩
def V5 (H:s5) (ws:List rK):rK->pW->Prop
 | .box i u x toks o,.cells t y ts=>pZ H i=some (.cells u x toks)/\qT t u x o=some y/\∀q n,(q,n)∈ts->∃k,ws[n]? =some (.tok k)/\wT toks (o+q)=some k/\q<t.cells
 | .tok k,.grow e c m=>pZ H k=some (.grow e c m)
 | .tok k,.map s t l=>pZ H k=some (.map s t l)/\s.pure=true/\t.pure=true
 | .tok k,.row e t l n=>pZ H k=some (.row e t l n)/\t.pure=true
 |_,_=>False
structure G6 (H:s5) (ws:List rK) (L:List pW):Prop where
 len:ws.length=L.length
 ok: ∀(c:Nat) wh b,ws[c]? =some wh->L[c]? =some b->V5 H ws wh b
 nodup:(sA ws).Nodup
def a0w (ws:List rK) (t:Ty) (x y:t.den):Prop:=(t.pure=true/\y=x)\/C6 ws t x=some y
def V6 (H:s5) (ws:List rK):rK->pW->Prop
 | .box i u x toks o,.cells t y ts=>pZ H i=some (.cells u x toks)/\(∃y0,qT t u x o=some y0/\a0w ws t y0 y)/\∀q n,(q,n)∈ts->∃k,ws[n]? =some (.tok k)/\wT toks (o+q)=some k/\q<t.cells
 | .tok k,.grow e c m=>pZ H k=some (.grow e c m)
 | .tok k,.map s t l=>pZ H k=some (.map s t l)/\s.pure=true/\t.pure=true
 | .tok k,.row e t l n=>pZ H k=some (.row e t l n)/\t.pure=true
 |_,_=>False
def NA {i o:Nat}: ∀{ws:List rK}{c0:Nat}{c q:Nat},CV i o ws c0=some (c,q)->∃d u x toks oc,c=c0+d/\ws[d]? =some (.box i u x toks oc)/\o=oc+q
 |[],_,_,_,h=>by simp [CV] at h
 | .box j u x toks oc::r,c0,c,q,h=>by
  simp only[CV] at h;split at h
  .rename_i hc;simp only[aSk,aSP] at h;obtain⟨rfl,rfl⟩:=h;obtain⟨rfl,h2⟩:=hc;exact⟨0,u,x,toks,oc,rfl,rfl,pC⟩
  .obtain⟨d,u',x',toks',oc',h1,h2,h3⟩:=NA h;exact⟨d+1,u',x',toks',oc',pC,by simpa using h2,h3⟩
 | .tok k::r,c0,c,q,h=>by
  simp only[CV] at h;obtain⟨d,u',x',toks',oc',h1,h2,h3⟩:=NA h;exact⟨d+1,u',x',toks',oc',pC,by simpa using h2,h3⟩
def I7 {i:Nat}: ∀{ws:List rK}{c0 c:Nat},vS i ws c0=some c->∃d,c=c0+d/\ws[d]? =some (.tok i)
 |[],_,_,h=>by simp [vS] at h
 | .tok j::r,c0,c,h=>by
  simp only[vS] at h;split at h
  .rename_i hc;simp only[aSk] at h;subst h;subst hc;exact⟨0,rfl,rfl⟩
  .obtain⟨d,h1,h2⟩:=I7 h;exact⟨d+1,pC,by simpa using h2⟩
 | .box _ _ _ _ _::r,c0,c,h=>by
  simp only[vS] at h;obtain⟨d,h1,h2⟩:=I7 h;exact⟨d+1,pC,by simpa using h2⟩
def a0x {α β:Type}{a:Option α}{b:Option β}{p:α×β}(h:EM a b=some p):a=some p.1/\b=some p.2:=by
 cases a<;>cases b<;>simp [EM] at h
 subst h;exact⟨rfl,rfl⟩
def aJS {x y:Option (Nat×pH)}(h:P9 x=some y):y=x/\∀f l,x=some (f,l)->l=[]:=by
 unfold P9 at h;split at h
 .cases h;exact⟨rfl,fun _ _ h=>by cases h⟩
 .cases h;exact⟨rfl,fun _ _ h=>by cases h;rfl⟩
 cases h
def aJT {g g':Gh}{x:Option (Nat×pH)}{cs:pJ}(hx: ∀f l,x=some (f,l)->l=[]) (h:I2 g x cs):I2 g' x cs:=by
 cases x with
 |none=>exact h
 |some q=>
  obtain⟨f,l⟩:=q;obtain rfl:=hx f l rfl;exact h
def V7 {g g':Gh}{w:pN}(hS:g'.S=g.S) (f:(t:Ty)->t.den->Option t.den)
  (hp: ∀a b x,f (.pair a b) x=EM (if a.pure=true then some x.1 else f a x.1) (if b.pure=true then some x.2 else f b x.2))
  (hl: ∀t x,f (.list t) x=if t.pure=true then some x else none) (hb: ∀x,f .bool x=some x) (hi: ∀k x,f (.int k) x=some x) (hs: ∀x,f .str x=some x) (hu: ∀x,f .unit x=some x) (hfn: ∀x,f .fn x=some x) (hrl: ∀e t x y cs,f (.rl e t) x=some y->BK g x cs->BK g' y cs) (hmr: ∀x y cs,f .mref x=some y->Q0 g x cs->Q0 g' y cs) (hap: ∀x y cs,f .ap x=some y->EU g w x cs->EU g' w y cs)
  (hr: ∀x y cs,f .ref x=some y->PZ g x cs->PZ g' y cs) (hm: ∀x y cs,f .mp x=some y->KL g x cs->KL g' y cs) (hc: ∀x,f .clo x=P9 x):
  ∀{t:Ty}{x y:t.den}{cs:pJ},Rd g w t x cs->f t x=some y->Rd g' w t y cs
 | .bool,_,_,_,r,h=>by rw[hb] at h;cases h;exact r
 | .int _,_,_,_,r,h=>by rw[hi] at h;cases h;exact r
 | .str,_,_,_,r,h=>by rw[hs] at h;cases h;exact r
 | .unit,_,_,_,r,h=>by rw[hu] at h;cases h;exact r
 | .rl e t,x,y,_,r,h=>hrl e t x y _ h r
 | .fn,_,_,_,r,h=>by rw[hfn] at h;cases h;exact r
 | .mref,x,y,_,r,h=>hmr x y _ h r
 | .ap,x,y,_,r,h=>hap x y _ h r
 | .list t,x,y,_,r,h=>by
  rw[hl] at h;split at h
  .rename_i hpu;cases h;exact vU hS (t:= .list t) (by simpa[Ty.pure] using hpu) r
  .cases h
 | .ref,x,y,_,r,h=>hr x y _ h r
 | .clo,x,y,_,r,h=>by
  rw[hc] at h;obtain⟨rfl,h2⟩:=aJS h;exact aJT h2 r
 | .mp,x,y,_,r,h=>hm x y _ h r
 | .pair a b,x,y,_,⟨c1,c2,e,r1,r2⟩,h=>by
  rw[hp] at h;obtain⟨h1,h2⟩:=a0x h;refine⟨c1,c2,e,?_,?_⟩
  .split at h1
   .rename_i hpu;exact(aSo h1)▸vU hS hpu r1
   exact V7 hS f hp hl hb hi hs hu hfn hrl hmr hap hr hm hc r1 h1
  split at h2
  .rename_i hpu;exact(aSo h2)▸vU hS hpu r2
  exact V7 hS f hp hl hb hi hs hu hfn hrl hmr hap hr hm hc r2 h2
def a0y (f:(t:Ty)->t.den->Option t.den)
  (hp: ∀a b x,f (.pair a b) x=EM (if a.pure=true then some x.1 else f a x.1) (if b.pure=true then some x.2 else f b x.2))
  (hl: ∀t x,f (.list t) x=if t.pure=true then some x else none) {u:Ty}: ∀{t:Ty}{x y:t.den}{o:Nat}{l:List u.den},f t x=some y->qT (.list u) t x o=some l->qT (.list u) t y o=some l:=by
 intro t
 induction t with
 |pair a b iha ihb=>
  intro x y o l h hg;rw[hp] at h;obtain⟨h1,h2⟩:=a0x h;have key: ∀z:(Ty.pair a b).den,∀q,qT (.list u) (.pair a b) z q=if q<a.cells then qT (.list u) a z.1 q else qT (.list u) b z.2 (q-a.cells):=by
   intro z q;cases q with
   |zero=>
    conv=>lhs;unfold qT
    rw[aTI (by intro e;cases e),Nat.zero_sub]
   |succ q=>simp [qT]
  rw[key] at hg|-;split
  .rename_i ho;rw[aSj ho] at hg;split at h1
   .rw[<-aSo h1];exact hg
   exact iha h1 hg
  .rename_i ho;rw[aSl ho] at hg;split at h2
   .rw[<-aSo h2];exact hg
   .exact ihb h2 hg
 |list v=>
  intro x y o l h hg;rw[hl] at h;split at h
  .cases h;exact hg
  .cases h
 |_=>
  intro x y o l h hg;cases o with
  |zero=>
   unfold qT at hg;split at hg
   .rename_i e;cases e
   .cases hg
  |succ o=>simp [qT] at hg
def aAK {c n3 n4:Nat}{a:pK}{b d:pL}{y:Nat×Nat×(Nat×Nat)×(Nat×Nat)}(h:SV c n3 n4 a b d=some y): ∃i k3 k4,a=some (i,0)/\b=some k3/\d=some k4/\y=(c,i,(k3,n3),(k4,n4)):=by
 unfold SV at h;split at h
 .exact⟨_,_,_,rfl,rfl,rfl,(aSo h).symm⟩
 cases h
def a0z {g g':Gh}{w w':pN}{c i k3 k4 n3 n4 i' k3' k4':Nat}{cs:pJ}(hS: ∀b o,g.S b o->g'.S b o/\w'.cell? ⟨b,o,none⟩=w.cell? ⟨b,o,none⟩) (hJ: ∀p,g.J i=some p->∃q,g'.J i'=some q/\q.1=p.1/\q.2=p.2) (h3: ∀v,g.cur k3 n3=some v->g'.cur k3' n3=some v) (h4: ∀v,g.cur k4 n4=some v->g'.cur k4' n4=some v)
  (h:EU g w (c,i,(k3,n3),(k4,n4)) cs):EU g' w' (c,i',(k3',n3),(k4',n4)) cs:=by
 rcases h with h|⟨h0,b,α,e,s1,s2,a1,a2,a3,a4⟩
 .exact .inl h
 refine .inr ⟨h0,b,α,e,(hS _ _ s1).1,(hS _ _ s1).2.trans s2,fun q=>?_,fun q=>?_,fun q=>?_,fun q=>?_⟩
 .obtain⟨p,p1,p2⟩:=a1 q;obtain⟨r,r1,r2,r3⟩:=hJ p p1;exact⟨r,r1,by rw[p2,r2,r3]⟩
 .obtain⟨p,p1,p2⟩:=a2 q;obtain⟨r,r1,r2,r3⟩:=hJ p p1;exact⟨r,r1,by rw[p2,r2,r3]⟩
 .obtain⟨bb,cap,p1,p2⟩:=a3 q;exact⟨bb,cap,h3 _ p1,p2⟩
 obtain⟨bb,cap,p1,p2⟩:=a4 q;exact⟨bb,cap,h4 _ p1,p2⟩
def aJU {g:Gh}{w:pN}{ws:List rK}{t:Ty}{x y:t.den}{cs:pJ}(r:Rd g w t x cs) (h:C6 ws t x=some y):Rd (uX g ws) w t y cs:=by
 refine V7 (g:=g) (g':=uX g ws) rfl (C6 ws) (fun a b x=>rfl) (fun t x=>rfl) (fun _=>rfl) (fun _ _=>rfl) (fun _=>rfl) (fun _=>rfl) (fun _=>rfl) (fun _ _ x y cs h r=>?_) (fun x y cs h r=>?_) (fun x y cs h r=>?_) (fun x y cs h r=>?_) (fun x y cs h r=>?_) (fun _=>rfl) r h
 rotate_left 2
 .obtain⟨c,i,⟨k3,n3⟩,⟨k4,n4⟩⟩:=x;simp only[C6,a9h] at h;obtain⟨i',k3',k4',e1,e2,e3,rfl⟩:=aAK h;obtain⟨d,u,x,toks,oc,rfl,h2,h0⟩:=NA e1;obtain⟨d3,rfl,h3⟩:=I7 e2;obtain⟨d4,rfl,h4⟩:=I7 e3;obtain rfl:oc=0:=by omega
  refine a0z (g:=g) (g':=uX g ws) (fun _ _ h=>⟨h,rfl⟩) (fun p hp=>⟨⟨p.1,p.2+0,p.3⟩,?_,rfl,rfl⟩) (fun v hv=>?_) (fun v hv=>?_) r
  .show uW g ws[0+d]? =_;rw[aSS,h2];simp [uW,hp]
  .show zO g ws[0+d3]? n3=_;rw[aSS,h3];exact hv
  show zO g ws[0+d4]? n4=_;rw[aSS,h4];exact hv
 rotate_left 2
 .cases x with
  |none=>cases h;exact r
  |some q=>
   obtain⟨k,n⟩:=q;simp only[C6,a9g] at h;cases hc:vS k ws 0 with
   |none=>rw[hc] at h;cases h
   |some c=>
    rw[hc] at h;cases h;obtain⟨d,rfl,h2⟩:=I7 hc;obtain⟨v,hv,hs⟩:=r;refine⟨v,?_,hs⟩;show zO g ws[0+d]? n=_;rw[aSS,h2];exact hv
 .cases x with
  |none=>cases h;exact r
  |some q=>
   obtain⟨i,o⟩:=q;simp only[C6,SU] at h;cases hc:CV i o ws 0 with
   |none=>rw[hc] at h;cases h
   |some q=>
    obtain⟨c,q⟩:=q;rw[hc] at h;cases h;obtain⟨d,u,x,toks,oc,rfl,h2,rfl⟩:=NA hc;obtain⟨p,hp,hv⟩:=r;refine⟨⟨p.1,p.2+oc,p.3⟩,?_,by have:=hv.1;rwa [<-aS3] at this,hv.2.imp id fun hv=>by rw[hv];simp [aS3]⟩;show uW g ws[0+d]? =_;rw[aSS,h2];simp [uW,hp]
 .cases x with
  |none=>cases h;exact r
  |some q=>
   obtain⟨i,o⟩:=q;simp only[C6,SU] at h;cases hc:CV i o ws 0 with
   |none=>rw[hc] at h;cases h
   |some q=>
    obtain⟨c,q⟩:=q;rw[hc] at h;cases h;obtain⟨d,u,x,toks,oc,rfl,h2,rfl⟩:=NA hc;obtain⟨p,hp,hv⟩:=r;refine⟨⟨p.1,p.2+oc,p.3⟩,?_,by rw[hv];simp [aS3]⟩;show uW g ws[0+d]? =_;rw[aSS,h2];simp [uW,hp]
 cases x with
 |none=>cases h;exact r
 |some i=>
  simp only[C6,a9f] at h;cases hc:vS i ws 0 with
  |none=>rw[hc] at h;cases h
  |some c=>
   rw[hc] at h;cases h;obtain⟨d,rfl,h2⟩:=I7 hc;obtain⟨p,hp,hv⟩:=r;refine⟨p,?_,hv⟩;show uW g ws[0+d]? =_;rw[aSS,h2];exact hp
def aJV {g:Gh}{w:pN}{ws:List rK}{t:Ty}{x y:t.den}{cs:pJ}(h:a0w ws t x y) (r:Rd g w t x cs):Rd (uX g ws) w t y cs:=by
 rcases h with⟨hp,rfl⟩ |h
 .exact vU (g:=g) (g':=uX g ws) rfl hp r
 exact aJU r h
def aJW {ws:List rK}{t u:Ty}{x y:t.den}{o:Nat}{l:List u.den}(h:a0w ws t x y) (hg:qT (.list u) t x o=some l):qT (.list u) t y o=some l:=by
 rcases h with⟨_,rfl⟩ |h
 .exact hg
 exact a0y (C6 ws) (fun _ _ _=>rfl) (fun _ _=>rfl) h hg
structure QB (H:s5) (ws:List rK) (L:List pW):Prop where
 len:ws.length=L.length
 ok: ∀(c:Nat) wh b,ws[c]? =some wh->L[c]? =some b->V6 H ws wh b
 nodup:(sA ws).Nodup
def a0A: ∀(ws:List rK) (c:Nat),(sA ws)[c]? =(ws[c]?).map rK.id
 |[],c=>by simp [sA]
 |w::ws,0=>rfl
 |w::ws,c+1=>by simpa[sA] using a0A ws c
def I8: ∀ws ws':List rK,sA (ws++ws')=sA ws++sA ws'
 |[],_=>rfl
 |w::ws,ws'=>by simp [sA,I8 ws ws']
def G7: ∀{i:Nat}{l:pM},zV i l=true↔i∈l
 |i,[]=>by simp [zV]
 |i,j::r=>by
  simp only[zV,aSx];by_cases h:i=j
  .simp [h]
  rw[aSl h,G7];simp [h]
def V8 {ws:List rK}(h:(sA ws).Nodup) {c c':Nat}{x y:rK}(hx:ws[c]? =some x) (hy:ws[c']? =some y) (he:x.id=y.id):c=c':=by
 have h1:(sA ws)[c]? =some x.id:=by rw[a0A,hx];rfl
 have h2:(sA ws)[c']? =some x.id:=by rw[a0A,hy,he];rfl
 obtain⟨l1,e1⟩:=aSz.1 h1;obtain⟨l2,e2⟩:=aSz.1 h2;have hp:=aSZ.1 h;rcases Nat.lt_trichotomy c c' with h3|h3|h3
 .exact absurd (e1.trans e2.symm) (hp c c' l1 l2 h3)
 .exact h3
 exact absurd (e2.trans e1.symm) (hp c' c l2 l1 h3)
def aAL: ∀{toks:pH}{q k:Nat},wT toks q=some k->(q,k)∈toks
 |[],_,_,h=>by simp [wT] at h
 |(q',k')::r,q,k,h=>by
  simp only[wT] at h;split at h
  .rename_i e;subst e;simp only[aSk] at h;subst h;simp
  exact aSy _ (aAL h)
def aJX {v t:Ty}: ∀{u:Ty}{x:u.den}{o q:Nat}{y:t.den}{l:(Ty.list v).den},qT t u x o=some y->qT (.list v) u x (o+q)=some l->q<t.cells->qT (.list v) t y q=some l:=by
 intro u
 induction u with
 |pair a b iha ihb=>
  intro x o q y l h g hq;by_cases hu:o=0/\t= .pair a b
  .obtain⟨rfl,rfl⟩:=hu;unfold qT at h;rw[aUe rfl] at h;simp only[tZ,aSk] at h;subst h;simpa using g
  .have keyh:(if o<a.cells then qT t a x.1 o else qT t b x.2 (o-a.cells))=some y:=by
    cases o with
    |zero=>
     unfold qT at h;rw[aTI (fun e=>hu ⟨rfl,e.symm⟩)] at h;simpa using h
    |succ o=>simpa[qT] using h
   have keyg: ∀z,qT (.list v) (.pair a b) x z=(if z<a.cells then qT (.list v) a x.1 z else qT (.list v) b x.2 (z-a.cells)):=by
    intro z;cases z with
    |zero=>
     conv=>lhs;unfold qT
     rw[aTI (by intro e;cases e),Nat.zero_sub]
    |succ z=>simp [qT]
   rw[keyg] at g;by_cases ho:o<a.cells
   .rw[aSj ho] at keyh;have hfit:o+t.cells<=a.cells:=by
     have: ∀{u:Ty}{x:u.den}{o:Nat}{y:t.den},qT t u x o=some y->o+t.cells<=u.cells:=by
      intro u
      induction u with
      |pair a b iha ihb=>
       intro x o y h;have key: ∀o,(if o<a.cells then qT t a x.1 o else qT t b x.2 (o-a.cells))=some y->o+t.cells<=a.cells+b.cells:=by
        intro o h;by_cases ho:o<a.cells
        .rw[aSj ho] at h;have:=iha h;omega
        rw[aSl ho] at h;have:=ihb h;omega
       cases o with
       |zero=>
        unfold qT at h;split at h
        .rename_i e;subst e;simp
        .exact key 0 (by simpa using h)
       |succ o=>exact key (o+1) (by simpa[qT] using h)
      |_=>
       intro x o y h;cases o with
       |zero=>
        unfold qT at h;split at h
        .rename_i e;subst e;simp
        .simp at h
       |succ o=>simp [qT] at h
     exact this keyh
    rw[aSj pC] at g;exact iha keyh g hq
   .rw[aSl ho] at keyh;rw[aSl pC,show o+q-a.cells=o-a.cells+q from by omega] at g;exact ihb keyh g hq
 |_=>
  intro x o q y l h g hq;cases o with
  |zero=>
   unfold qT at h;split at h
   .rename_i e;subst e;simp only[tZ,aSk] at h
    try subst h
    simpa using g
   .simp at h
  |succ o=>simp [qT] at h
def aJY {g:Gh}{w:pN}{H:s5}{ws:List rK}{L:List pW}(hH:s9 g w H) (hm:QB H ws L):s9 (uX g ws) w (qQ 0 L):=by
 have wsL: ∀c b,pZ (qQ 0 L) c=some b->∃wh,ws[c]? =some wh/\V6 H ws wh b:=by
  intro c b h;rw[x8] at h;have hlt:c<ws.length:=hm.len▸(aSz.1 h).1;exact⟨ws[c],aSu hlt,hm.ok c _ b (aSu hlt) h⟩
 have own: ∀c b wh,ws[c]? =some wh->V6 H ws wh b->∀bb oo,s8 (uX g ws) c b bb oo->∃blk,pZ H wh.id=some blk/\s8 g wh.id blk bb oo:=by
  intro c b wh hwh hw bb oo ho;cases wh with
  |box i u x toks off=>
   cases b with
   |cells t y ts=>
    obtain⟨h1,⟨y0,h2,h3⟩,h4⟩:=hw;obtain⟨p,hp,e1,e2,e3⟩:=ho;have hp':uW g ws[c]? =some p:=hp;rw[hwh] at hp';obtain⟨p0,hp0,rfl⟩:=aSA.1 hp';obtain⟨p1,cs,hp1,hR,_⟩:=hH.blk i _ h1;obtain⟨c1,c2,c3,hcs,hl,hR2⟩:=BL hR h2;have l1:=sL hR;have l2:=sL hR2;rw[hcs] at l1;simp only[aSp] at l1;exact⟨_,h1,p0,hp0,e1,by simp at e2;omega,by simp at e3;omega⟩
   |_=>exact hw.elim
  |tok k=>
   cases b with
   |grow e cc m=>
    obtain⟨v,hv,hb⟩:=ho;have hv':zO g ws[c]? m=some v:=hv;rw[hwh] at hv';exact⟨_,hw,v,hv',hb⟩
   |map s t l=>
    obtain⟨p,hp,hb⟩:=ho;have hp':uW g ws[c]? =some p:=hp;rw[hwh] at hp';exact⟨_,hw.1,p,hp',hb⟩
   |row e t l m=>
    obtain⟨v,hv,hb⟩:=ho;have hv':zO g ws[c]? m=some v:=hv;rw[hwh] at hv';exact⟨_,hw.1,v,hv',hb⟩
   |_=>exact hw.elim
 refine⟨fun c b h=>?_,fun c c' b b' bb oo hne h1 h2 o1 o2=>?_,hH.sl,hH.tab.1,fun c b bb oo h ho=>?_⟩
 rotate_right
 .obtain⟨wh,hwh,hw⟩:=wsL c b h;obtain⟨k1,g1,p1⟩:=own c b wh hwh hw bb oo ho;exact hH.tab.2 _ _ bb oo g1 p1
 .obtain⟨wh,hwh,hw⟩:=wsL c b h;cases wh with
  |box i u x toks off=>
   cases b with
   |cells t y ts=>
    obtain⟨h1,⟨y0,h2,h3⟩,h4⟩:=hw;obtain⟨p,cs,hp,hR,hra,hth,hns,htk⟩:=hH.blk i _ h1;obtain⟨c1,c2,c3,rfl,rfl,hR2⟩:=BL hR h2;have l1:=sL hR;have l2:=sL hR2;simp only[aSp] at l1;refine⟨⟨p.1,p.2+c1.length,p.3⟩,c2,?_,aJV h3 hR2,fun j v hv=>?_,⟨fun j hj=>?_,fun h0 s hs=>hth.2 pC s hs⟩,fun j hj hs=>?_,fun q n hm'=>?_⟩
    .show uW g ws[c]? =_;rw[hwh];simp [uW,hp]
    .have:=hra (c1.length+j) v (by
      have hj':=(aSz.1 hv).1;rw[aSv,aSt pC,aS9,aSD hj'];exact hv)
     rw[aS3];exact this
    .have:=hth.1 (c1.length+j) pC;rw[aS3];exact this
    .exact hns (c1.length+j) pC (by rw[<-aS3];exact hs)
    .obtain⟨k,k1,k2,k3⟩:=h4 q n hm';have hmem:(c1.length+q,k)∈toks:=aAL k2;obtain⟨u',l,v,g1,g2,g3⟩:=htk _ _ hmem;refine⟨u',l,v,aJW h3 (aJX h2 g1 k3),?_,?_⟩
     .rw[aSv,aSt pC,aS9,aSD pC] at g2;exact g2
     .show zO g ws[n]? _=_;rw[k1];exact g3
   |_=>exact hw.elim
  |tok k=>
   cases b with
   |grow e cc m=>
    have e1:(uX g ws).cur c=g.cur k:=by
     funext n;show zO g ws[c]? n=_;rw[hwh];rfl
    obtain⟨v,xs,hv,hr,hn,hs⟩:=hH.blk k _ hw;exact⟨v,xs,by rw[e1];exact hv,hr,fun m hm'=>by rw[e1];exact hn m hm',hs⟩
   |map s t l=>
    obtain⟨p,es,cl,hp,hp0,hh,hM,hS⟩:=hH.blk k _ hw.1;refine⟨p,es,cl,?_,hp0,hh,Q2 (g:=g) (g':=uX g ws) rfl hw.2.1 hw.2.2 hM,hS⟩;show uW g ws[c]? =_;rw[hwh];exact hp
   |row e t l m=>
    have e1:(uX g ws).cur c=g.cur k:=by
     funext n;show zO g ws[c]? n=_;rw[hwh];rfl
    obtain⟨hl,v,xs,hv,hr,hF,hn,hs⟩:=hH.blk k _ hw.1;exact⟨hl,v,xs,by rw[e1];exact hv,hr,CC (fun _ _ h=>vU (g:=g) (g':=uX g ws) rfl hw.2 h) hF,fun m hm'=>by rw[e1];exact hn m hm',hs⟩
   |_=>exact hw.elim
 obtain⟨wh,hwh,hw⟩:=wsL c b h1;obtain⟨wh',hwh',hw'⟩:=wsL c' b' h2;obtain⟨k1,g1,p1⟩:=own c b wh hwh hw bb oo o1;obtain⟨k2,g2,p2⟩:=own c' b' wh' hwh' hw' bb oo o2;exact hH.dis wh.id wh'.id k1 k2 bb oo (fun e=>hne (V8 hm.nodup hwh hwh' e)) g1 g2 p1 p2
def aAM {H:s5}{ws more:List rK}: ∀{wh:rK}{b:pW},V5 H ws wh b->V5 H (ws++more) wh b
 | .box _ _ _ _ _,.cells _ _ _,⟨h1,h2,h4⟩=>⟨h1,h2,fun q n h=>let ⟨k,k1,k2⟩:=h4 q n h;⟨k,by rw[aSD (aSz.1 k1).1];exact k1,k2⟩⟩
 | .box _ _ _ _ _,.grow _ _ _,h=>h.elim
 | .box _ _ _ _ _,.dead,h=>h.elim
 | .box _ _ _ _ _,.row _ _ _ _,h=>h.elim
 | .box _ _ _ _ _,.map _ _ _,h=>h.elim
 | .box _ _ _ _ _,.iter _ _,h=>h.elim
 | .tok _,.iter _ _,h=>h.elim
 | .tok _,.row _ _ _ _,h=>h
 | .tok _,.grow _ _ _,h=>h
 | .tok _,.map _ _ _,h=>h
 | .tok _,.cells _ _ _,h=>h.elim
 | .tok _,.dead,h=>h.elim
def KV (g:Gh) (w:pN) (ws more:List rK):Le (uX g ws) w (uX g (ws++more)) w:=by
 refine⟨fun _ _ h=>h,fun _ _ _=>rfl,fun c p h=>?_,fun c n v h=>?_⟩
 .have h':uW g ws[c]? =some p:=h;show uW g (ws++more)[c]? =some p;cases hc:ws[c]? with
  |none=>rw[hc] at h';cases h'
  |some wh=>rw[aSD (aSz.1 hc).1];exact h'
 have h':zO g ws[c]? n=some v:=h;show zO g (ws++more)[c]? n=some v;cases hc:ws[c]? with
 |none=>rw[hc] at h';cases h'
 |some wh=>rw[aSD (aSz.1 hc).1];exact h'
def KW {g g':Gh}{w w':pN}(h:Le g w g' w'): ∀{ss:List pX}{vs:pJ},vG g w ss vs->vG g' w' ss vs
 |[],_,r=>r
 |_::_,_,⟨v,vs',e,r1,r2⟩=>⟨v,vs',e,CX h r1,KW h r2⟩
def DI {g:Gh}{w:pN}: ∀{ss:List pX}{vs:pJ}{s:pX}{v:pO},vG g w ss vs->rF g w s v->vG g w (ss++[s]) (vs++[v])
 |[],_,_,_,h,k=>by rw[show _=[] from h];exact⟨_,_,rfl,k,rfl⟩
 |_::_,_,_,_,⟨v,vs',e,r1,r2⟩,k=>⟨v,vs'++_,by rw[e];rfl,r1,DI r2 k⟩
def G6.tok {H:s5}{ws:List rK}{L:List pW}(h:G6 H ws L) {k:Nat}{b0:pW}(hk:V5 H (ws++[.tok k]) (.tok k) b0) (hn:k∉sA ws):G6 H (ws++[.tok k]) (L++[b0]):=by
 refine⟨by simp [h.len],fun i wh b h1 h2=>?_,?_⟩
 .by_cases hi:i<ws.length
  .rw[aSD hi] at h1;rw[aSD (h.len▸hi)] at h2;exact aAM (h.ok i wh b h1 h2)
  rw[aSt pC] at h1;rw[aSt (by rw[<-h.len];omega),<-h.len] at h2;obtain⟨d,hd⟩: ∃d,i-ws.length=d:=⟨_,rfl⟩;rw[hd] at h1 h2;cases d with
  |zero=>
   simp only[aSY,aSk] at h1 h2;subst h1;subst h2;exact hk
  |succ d=>simp at h1
 rw[I8];exact List.nodup_append.2 ⟨h.nodup,by simp [sA],fun a ha b hb=>by
  simp only[sA,rK.id,aSC] at hb;subst hb;intro e;exact hn (e▸ha)⟩
def aAN: ∀{os:pM}{n q m:Nat},(q,m)∈JX os n->∃j:Nat,os[j]? =some q/\m=n+j
 |[],_,_,_,h=>by simp [JX] at h
 |q'::os,n,q,m,h=>by
  simp only[JX,aSx,aSP] at h;rcases h with⟨rfl,rfl⟩ |h
  .exact⟨0,rfl,rfl⟩
  obtain⟨j,h1,h2⟩:=aAN h;exact⟨j+1,by simpa using h1,pC⟩
def aAO {n:Nat}: ∀{os:pM}{j q:Nat},MQ n os=true->os[j]? =some q->q<n
 |[],_,_,_,h=>by simp at h
 |q'::os,0,q,h,h2=>by
  simp only[MQ,aSB,aSs] at h;simp only[aSY,aSk] at h2;exact h2▸h.1
 |q'::os,j+1,q,h,h2=>by
  simp only[MQ,aSB] at h;exact aAO h.2 (by simpa using h2)
def V9 {H:s5}{toks:pH}{o:Nat}: ∀{os:pM}{a a':sQ},yI H toks o os (some a)=some a'->
  ∃(ks:pM) (bs:List pW),ks.length=os.length/\bs.length=os.length/\a'.args=a.args/\a'.H.reverse=a.H.reverse++bs/\a'.ws.reverse=a.ws.reverse++ks.map rK.tok/\a'.n=a.n+os.length/\
   (∀(j:Nat) q k,os[j]? =some q->ks[j]? =some k->wT toks (o+q)=some k)/\(∀(j:Nat) k b,ks[j]? =some k->bs[j]? =some b->pZ H k=some b/\∃e c m,b= .grow e c m)/\(∀k∈ks,k∉sA a.ws.reverse)/\ks.Nodup
 |[],a,a',h=>by
  simp only[yI,aSk] at h;subst h;exact⟨[],[],rfl,rfl,rfl,by simp,by simp,rfl,by simp,by simp,by simp,by simp⟩
 |q::os,a,a',h=>by
  simp only[yI] at h;have none_no: ∀os,yI H toks o os none=none:=by
   intro os
   induction os with
   |nil=>rfl
   |cons q os ih=>
    have:zH H (wT toks (o+q)) none=none:=by
     cases wT toks (o+q) with
     |none=>rfl
     |some k=>simp only[zH];cases pZ H k with
      |none=>rfl
      |some b=>cases b<;>rfl
    simp only[yI,this,ih]
  cases hk:wT toks (o+q) with
  |none=>rw[hk] at h;simp only[zH,none_no] at h;cases h
  |some k=>
   rw[hk] at h;simp only[zH] at h;cases hb:pZ H k with
   |none=>rw[hb] at h;simp only[C1,none_no] at h;cases h
   |some b=>
    rw[hb] at h;cases b with
    |grow e c m=>
     simp only[C1] at h;by_cases hm:zV k (sA a.ws)=true
     .rw[aSj hm,none_no] at h;cases h
     .rw[aSl hm] at h;obtain⟨ks,bs,h1,h2,h3,h4,h5,h6,h7,h8,h9,h10⟩:=V9 h;simp only[aS0] at h4 h5 h9;have hrev: ∀ws:List rK,∀i,i∈sA ws.reverse↔i∈sA ws:=by
       intro ws i
       induction ws with
       |nil=>simp
       |cons x r ih=>rw[aS0,I8];simp [sA,ih,or_comm]
      refine⟨k::ks,.grow e c m::bs,by simp [h1],by simp [h2],h3,by rw[h4];simp,by rw[h5];simp,by rw[h6];simp;omega,fun j q' k'=>?_,fun j k' b'=>?_,fun k' hk'=>?_,?_⟩
      .cases j with
       |zero=>intro e1 e2;simp only[aSY,aSk] at e1 e2;subst e1;subst e2;exact hk
       |succ j=>intro e1 e2;exact h7 j q' k' (by simpa using e1) (by simpa using e2)
      .cases j with
       |zero=>intro e1 e2;simp only[aSY,aSk] at e1 e2;subst e1;subst e2;exact⟨hb,_,_,_,rfl⟩
       |succ j=>intro e1 e2;exact h8 j k' b' (by simpa using e1) (by simpa using e2)
      .rcases aSx.1 hk' with rfl|hk'
       .rw[hrev];exact fun hmem=>hm (G7.2 hmem)
       intro hmem;exact h9 k' hk' (by rw[I8];exact List.mem_append_left _ hmem)
      .refine List.nodup_cons.2 ⟨fun hmem=>h9 k hmem (by rw[I8];simp [sA,rK.id]),h10⟩
    |cells t y ts=>simp only[C1,none_no] at h;cases h
    |row=>simp only[C1,none_no] at h;cases h
    |map=>simp only[C1,none_no] at h;cases h
    |iter=>simp only[C1,none_no] at h;cases h
    |dead=>simp only[C1,none_no] at h;cases h
def aAP: ∀ks:pM,sA (ks.map rK.tok)=ks
 |[]=>rfl
 |k::ks=>by simp [sA,rK.id,aAP ks]
def G6.box {H:s5}{ws:List rK}{L:List pW}(h:G6 H ws L) {t u:Ty}{x:u.den}{y:t.den}{toks:pH}{i o:Nat}{os ks:pM}{bs:List pW}(hi:pZ H i=some (.cells u x toks)) (hy:qT t u x o=some y) (hlt:MQ t.cells os=true) (hn:i∉sA ws)
  (h1:ks.length=os.length) (h2:bs.length=os.length) (h7: ∀(j:Nat) q k,os[j]? =some q->ks[j]? =some k->wT toks (o+q)=some k) (h8: ∀(j:Nat) k b,ks[j]? =some k->bs[j]? =some b->pZ H k=some b/\∃e c m,b= .grow e c m) (h9: ∀k∈ks,k∉sA (ws++[.box i u x toks o])) (h10:ks.Nodup):
  G6 H ((ws++[.box i u x toks o])++ks.map rK.tok) ((L++[.cells t y (JX os (ws.length+1))])++bs):=by
 have hlen1:(ws++[rK.box i u x toks o]).length=ws.length+1:=by simp
 have hlen2:(L++[pW.cells t y (JX os (ws.length+1))]).length=ws.length+1:=by simp [h.len]
 refine⟨by simp [h.len,h1,h2],fun c wh b e1 e2=>?_,?_⟩
 .by_cases hc:c<ws.length
  .rw[aSD pC,aSD hc] at e1;rw[aSD pC,aSD (h.len▸hc)] at e2;rw[aSv];exact aAM (h.ok c wh b e1 e2)
  by_cases hc2:c=ws.length
  .subst hc2;rw[aSD pC,aSt (aSE _),aTR] at e1;rw[aSD pC,aSt (by rw[h.len];exact aSE _),h.len,aTR] at e2;simp only[aSY,aSk] at e1 e2;subst e1;subst e2;refine⟨hi,hy,fun q n hm=>?_⟩;rw[<-h.len] at hm;obtain⟨j,hj,rfl⟩:=aAN hm;have hjl:j<ks.length:=by rw[h1];exact(aSz.1 hj).1
   refine⟨ks[j],?_,h7 j q _ hj (aSu hjl),aAO hlt hj⟩;rw[aSt pC,hlen1,show ws.length+1+j- (ws.length+1)=j from by omega];simp [hjl]
  rw[aSt pC,hlen1] at e1;rw[aSt pC,hlen2] at e2;rw[List.getElem?_map] at e1;obtain⟨k,hk,rfl⟩:=aSA.1 e1;obtain⟨hg,e,cc,m,rfl⟩:=h8 _ k b hk e2;exact hg
 rw[I8,aAP];refine List.nodup_append.2 ⟨?_,h10,fun a ha b hb e=>h9 b hb (e▸ha)⟩;rw[I8];exact List.nodup_append.2 ⟨h.nodup,by simp [sA],fun a ha b hb=>by
  simp only[sA,rK.id,aSC] at hb;subst hb;intro e;exact hn (e▸ha)⟩
def QC (ws:List rK) (i:Nat):i∈sA ws.reverse↔i∈sA ws:=by
 induction ws with
 |nil=>simp
 |cons x r ih=>rw[aS0,I8];simp [sA,ih,or_comm]
structure BO (g:Gh) (w:pN) (H:s5) (vals:pJ) (a:sQ):Prop where
 n:a.n=a.ws.reverse.length
 m:G6 H a.ws.reverse a.H.reverse
 args:vG (uX g a.ws.reverse) w a.args.reverse vals
def aJZ {g:Gh}{w:pN}{ws:List rK}{t:Ty}(hp:t.pure=true) {x:t.den}{v:pO}{k:pL}(h:rF g w (.val t x,k) v):rF (uX g ws) w (.val t x,none) v:=
 ⟨h.1.imp (fun⟨a,cs,e,q⟩=>⟨a,cs,e,vU (g:=g) (g':=uX g ws) rfl hp q⟩) (fun⟨a,q⟩=>⟨a,vU (g:=g) (g':=uX g ws) rfl hp q⟩),trivial⟩
def aJ0 {H:s5}{k:pL}{a b:sQ}{l m:List pX}(h:zH H k (some ⟨l,a.H,a.ws,a.n⟩)=some b):b.args=l/\zH H k (some ⟨m,a.H,a.ws,a.n⟩)=some ⟨m,b.H,b.ws,b.n⟩:=by
 cases k with
 |none=>cases h
 |some k=>
  simp only[zH] at h|-;cases hb:pZ H k with
  |none=>rw[hb] at h;simp [C1] at h
  |some bl=>
   rw[hb] at h;cases bl with
   |grow e c n=>
    simp only[C1] at h|-;split at h
    .cases h
    .rename_i hc;rw[aSl hc];cases h;exact⟨rfl,rfl⟩
   |_=>simp [C1] at h
def aAQ {H:s5}{toks:pH}{o:Nat}{m:List pX}: ∀{os:pM}{a b:sQ},yI H toks o os (some a)=some b->b.args=a.args/\yI H toks o os (some ⟨m,a.H,a.ws,a.n⟩)=some ⟨m,b.H,b.ws,b.n⟩
 |[],a,b,h=>by simp only[yI,aSk] at h;subst h;exact⟨rfl,rfl⟩
 |q::os,a,b,h=>by
  simp only[yI] at h|-;have none_no: ∀os,yI H toks o os none=none:=by
   intro os
   induction os with
   |nil=>rfl
   |cons q os ih=>
    have:zH H (wT toks (o+q)) none=none:=by
     cases wT toks (o+q) with
     |none=>rfl
     |some k=>simp only[zH];cases pZ H k with
      |none=>rfl
      |some b=>cases b<;>rfl
    simp only[yI,this,ih]
  cases hm:zH H (wT toks (o+q)) (some a) with
  |none=>rw[hm,none_no] at h;cases h
  |some c=>
   rw[hm] at h;obtain⟨h1,h2⟩:=aJ0 (a:=a) (l:=a.args) (m:=m) hm;obtain⟨h3,h4⟩:=aAQ (m:=m) h;rw[h2];exact⟨h3.trans h1,h4⟩
def aJ1 {H:s5}{t:Ty}{os:pM}{i o:Nat}{a b:sQ}{m:List pX}(h:vR H t os i o a (pZ H i)=some b):vR H t os i o ⟨m,a.H,a.ws,a.n⟩ (pZ H i)=some ⟨(.val .ref (some (a.n,0)),none)::m,b.H,b.ws,b.n⟩:=by
 cases hb:pZ H i with
 |none=>rw[hb] at h;simp [vR] at h
 |some bl=>
  rw[hb] at h;cases bl with
  |cells u x toks=>
   simp only[vR] at h|-;cases hy:qT t u x o with
   |none=>rw[hy] at h;simp [EL] at h
   |some y=>
    rw[hy] at h;simp only[EL] at h|-;split at h
    .rename_i hc;rw[aSj hc];exact(aAQ (m:=(.val .ref (some (a.n,0)),none)::m) h).2
    .cases h
  |_=>simp [vR] at h
def aAR {g:Gh}{i o:Nat}{p:Pl}{v:pO}: ∀{l:pH}{vs:pJ},yA g l vs->g.J i=some p->v= .pointer (some ⟨p.1,p.2+o,none⟩)->yA g (l++[(i,o)]) (vs++[v])
 |[],vs,h,hp,hv=>by rw[show vs=[] from h];exact⟨p,[],hp,by rw[hv];rfl,rfl⟩
 |(_,_)::l,vs,⟨q,vs',h1,h2,h3⟩,hp,hv=>⟨q,vs'++[v],h1,by rw[h2];rfl,aAR h3 hp hv⟩
def a0B {α:Type}: ∀(l acc:List α),yR l acc=l.reverse++acc
 |[],_=>rfl
 |x::l,acc=>by simp [yR,a0B l]
def aAS {g:Gh}{w:pN}{H:s5}(hH:s9 g w H) {t:Ty}{os:pM}{i o:Nat}{vals:pJ}{a a':sQ}(ha:BO g w H vals a) {p:Pl}(hp:g.J i=some p) (h:vR H t os i o a (pZ H i)=some a'):
  BO g w H vals ⟨a.args,a'.H,a'.ws,a'.n⟩/\∃more,a'.ws.reverse=a.ws.reverse++more/\a'.args=(.val .ref (some (a.n,0)),none)::a.args/\(uX g a'.ws.reverse).J a.n=some ⟨p.1,p.2+o,p.3⟩:=by
 cases hb:pZ H i with
 |none=>rw[hb] at h;simp [vR] at h
 |some b=>
  rw[hb] at h;cases b with
  |cells u x toks=>
   simp only[vR] at h;cases hy:qT t u x o with
   |none=>rw[hy] at h;simp [EL] at h
   |some y=>
    rw[hy] at h;simp only[EL] at h;split at h
    .rename_i hc;simp only[aSB,aSV] at hc;obtain⟨ks,bs,h1,h2,h3,h4,h5,h6,h7,h8,h9,h10⟩:=V9 h;simp only[aS0] at h3 h4 h5 h6 h9;have hnm:i∉sA a.ws.reverse:=fun hmem=>by
      have:=G7.2 ((QC _ _).1 hmem);rw[hc.2] at this;cases this
     have e5:a'.ws.reverse=a.ws.reverse++([rK.box i u x toks o]++ks.map rK.tok):=by rw[h5];simp only[aSv]
     refine⟨⟨by rw[h6];simp only;rw[h5,ha.n];simp [h1];omega,?_,?_⟩,_,e5,h3,?_⟩
     .simp only;rw[h4,h5,ha.n];exact ha.m.box hb hy hc.1 hnm h1 h2 h7 h8 h9 h10
     .simp only;rw[e5];exact KW (KV g w _ _) ha.args
     show uW g a'.ws.reverse[a.n]? =_;rw[e5,ha.n,aSt (aSE _),aTR];show (g.J i).map _=_;rw[hp];rfl
    .cases h
  |grow=>simp [vR] at h
  |row=>simp [vR] at h
  |map=>simp [vR] at h
  |iter=>simp [vR] at h
  |dead=>simp [vR] at h
def aAT {H:s5}{f:FuncId}{args0:List pX}: ∀{ks:List (Ty×pM)}{cs ids:pH}{a a':sQ},xK H f args0 ks cs ids (some a)=some a'->∃s more,a'.args=s::args0/\a'.ws.reverse=a.ws.reverse++more
 |[],[],ids,a,a',h=>by
  simp only[xK,aSk] at h;subst h;exact⟨_,[],rfl,by simp⟩
 |[],_::_,_,_,_,h=>by simp [xK] at h
 |_::_,[],_,_,_,h=>by simp [xK] at h
 |(t,os)::ks,(i,o)::cs,ids,a,a',h=>by
  simp only[xK] at h;cases hb:vR H t os i o a (pZ H i) with
  |none=>rw[hb] at h;cases ks<;>cases cs<;>simp [xK] at h
  |some b=>
   rw[hb] at h;obtain⟨s,more,h1,h2⟩:=aAT h;obtain⟨more0,h3⟩: ∃more0,b.ws.reverse=a.ws.reverse++more0:=by
    unfold vR at hb;split at hb
    .unfold EL at hb;split at hb
     .split at hb
      .obtain⟨ks,bs,_,_,_,_,h5,_⟩:=V9 hb;exact⟨_,by rw[h5];simp only[aS0];exact aSv ..⟩
      cases hb
     cases hb
    cases hb
   exact⟨s,more0++more,h1,by rw[h2,h3,aSv]⟩
def aAU {g:Gh}{w:pN}{H:s5}(hH:s9 g w H) {f:FuncId}{args0:List pX}{vals:pJ}: ∀{ks:List (Ty×pM)}{cs:pH}{ids:pH}{vs us:pJ}{a a':sQ},BO g w H vals ⟨args0,a.H,a.ws,a.n⟩->
  yA g cs vs->yA (uX g a.ws.reverse) ids.reverse us->xK H f args0 ks cs ids (some a)=some a'->
  BO g w H vals ⟨args0,a'.H,a'.ws,a'.n⟩/\∃ids',a'.args=(.val .clo (some (f,ids')),none)::args0/\(∃more,a'.ws.reverse=a.ws.reverse++more)/\yA (uX g a'.ws.reverse) ids' (us++vs)
 |[],[],ids,vs,us,a,a',ha,hv,hu,h=>by
  simp only[xK,a0B,List.append_nil,aSk] at h;subst h;rw[show vs=[] from hv,List.append_nil];exact⟨ha,_,rfl,⟨[],by simp⟩,hu⟩
 |[],_::_,_,_,_,_,_,_,_,_,h=>by simp [xK] at h
 |_::_,[],_,_,_,_,_,_,_,_,h=>by simp [xK] at h
 |(t,os)::ks,(i,o)::cs,ids,vs,us,a,a',ha,⟨p,vs',hp,hv1,hv2⟩,hu,h=>by
  simp only[xK] at h;cases hb:vR H t os i o a (pZ H i) with
  |none=>rw[hb] at h;cases ks<;>cases cs<;>simp [xK] at h
  |some b=>
   rw[hb] at h;have hb':vR H t os i o ⟨args0,a.H,a.ws,a.n⟩ (pZ H i)=some ⟨(.val .ref (some (a.n,0)),none)::args0,b.H,b.ws,b.n⟩:=aJ1 hb;obtain⟨q1,more,q2,q3,q4⟩:=aAS hH ha hp hb';simp only at q1 q2 q3 q4;have hmono:=KV g w a.ws.reverse more;rw[<-q2] at hmono;have hu2:yA (uX g b.ws.reverse) ((a.n,0)::ids).reverse (us++[.pointer (some ⟨p.1,p.2+o,none⟩)]):=by
    simp only[aS0];exact aAR (ZO hmono.J hu) q4 pE
   obtain⟨z1,ids',z2,⟨more',z3⟩,z4⟩:=aAU hH (a:=b) q1 hv2 hu2 h;refine⟨z1,ids',z2,⟨more++more',by rw[z3,q2,aSv]⟩,?_⟩;rw[hv1];rw[aSv] at z4;exact z4
def aAV {g:Gh}{w:pN}{H:s5}(hH:s9 g w H) {p:PK}{s:pX}{v:pO}{vals:pJ}{a a':sQ}(ha:BO g w H vals a) (hs:rF g w s v) (h:xL H a p s=some a'):BO g w H (vals++[v]) a':=by
 unfold xL at h;split at h
 .rename_i f k;simp only[SS,aSk] at h;subst h;refine⟨ha.n,ha.m,?_⟩;simp only[aS0];refine DI ha.args ⟨?_,trivial⟩;rcases hs.1 with⟨h1,_⟩ |⟨h1,vs,h2,h3⟩
  .cases h1
  rw[show vs=[] from h2] at h3;exact .inr ⟨rfl,[],rfl,h3⟩
 .rename_i t x k _;simp only[SR] at h;split at h
  .rename_i hp;simp only[aSk] at h;subst h;refine⟨ha.n,ha.m,?_⟩;simp only[aS0];exact DI ha.args (aJZ hp hs)
  cases h
 .simp only[ST,aSk] at h;subst h;refine⟨ha.n,ha.m,?_⟩;simp only[aS0];exact DI ha.args ⟨hs.1,trivial⟩
 .rename_i t x k;cases hb:pZ H k with
  |none=>rw[hb] at h;simp [C2] at h
  |some b=>
   rw[hb] at h;cases b with
   |grow e c m=>
    simp only[C2] at h;split at h
    .rename_i hc;simp only[aSB,aSV] at hc;simp only[aSk] at h;subst h;have hnm:k∉sA a.ws.reverse:=fun hmem=>by
      have:=G7.2 ((QC _ _).1 hmem);rw[hc.2] at this;cases this
     refine⟨by simp [ha.n],by simpa using ha.m.tok (b0:= .grow e c m) hb hnm,?_⟩;simp only[aS0];refine DI (KW (KV g w _ _) ha.args) (V2 (g:=g) (g':=uX g (a.ws.reverse++[.tok k])) (k':=some a.n) rfl hc.1 (fun _ _=>⟨_,rfl⟩) hs (fun c' e1=>?_) (fun e1=>by cases e1));cases e1;refine⟨_,rfl,fun n u hu=>?_⟩;show zO g (a.ws.reverse++[rK.tok k])[a.n]? n=some u;rw[ha.n,aSt (aSE _),aTR];exact hu
    .cases h
   |cells=>simp [C2] at h
   |row=>simp [C2] at h
   |map=>simp [C2] at h
   |iter=>simp [C2] at h
   |dead=>simp [C2] at h
 .rename_i t os i o k;obtain⟨p,hp,hv⟩:=x7 hs.1;obtain⟨h1,more,h2,h3,h4⟩:=aAS hH ha hp h;refine⟨h1.n,h1.m,?_⟩;rw[h3];simp only[aS0];exact DI h1.args ⟨.inr ⟨rfl,_,h4,by rw[hv];rfl⟩,trivial⟩
 .rename_i i k;cases hb:pZ H i with
  |none=>rw[hb] at h;simp [C3] at h
  |some b=>
   rw[hb] at h;cases b with
   |map s t l=>
    simp only[C3] at h;split at h
    .rename_i hc;simp only[aSB,aSV] at hc;simp only[aSk] at h;subst h;have hnm:i∉sA a.ws.reverse:=fun hmem=>by
      have:=G7.2 ((QC _ _).1 hmem);rw[hc.2] at this;cases this
     refine⟨by simp [ha.n],by simpa using ha.m.tok (b0:= .map s t l) ⟨hb,hc.1.1,hc.1.2⟩ hnm,?_⟩;simp only[aS0];obtain⟨p,hp,hv⟩: ∃p,g.J i=some p/\v= .map (some p.1):=by
      obtain⟨p,h1,e⟩:=wZ rfl hs.1;simp only[aS4,and_true] at e;exact⟨p,h1,e⟩
     refine DI (KW (KV g w _ _) ha.args) ⟨.inr ⟨rfl,p,?_,by rw[hv]⟩,trivial⟩;show uW g (a.ws.reverse++[rK.tok i])[a.n]? =_;rw[ha.n,aSt (aSE _),aTR];exact hp
    .cases h
   |cells=>simp [C3] at h
   |row=>simp [C3] at h
   |grow=>simp [C3] at h
   |iter=>simp [C3] at h
   |dead=>simp [C3] at h
 .rename_i k n k';cases hb:pZ H k with
  |none=>rw[hb] at h;simp [xJ] at h
  |some b=>
   rw[hb] at h;cases b with
   |row e t l m=>
    simp only[xJ] at h;split at h
    .rename_i hc;simp only[aSB,aSV] at hc;simp only[aSk] at h;subst h;have hnm:k∉sA a.ws.reverse:=fun hmem=>by
      have:=G7.2 ((QC _ _).1 hmem);rw[hc.2] at this;cases this
     refine⟨by simp [ha.n],by simpa using ha.m.tok (b0:= .row e t l m) ⟨hb,hc.1⟩ hnm,?_⟩;simp only[aS0];obtain⟨h1,h2⟩:=hs.1;refine DI (KW (KV g w _ _) ha.args) ⟨⟨?_,h2⟩,trivial⟩;show zO g (a.ws.reverse++[rK.tok k])[a.n]? n=_;rw[ha.n,aSt (aSE _),aTR];exact h1
    .cases h
   |cells=>simp [xJ] at h
   |grow e c m=>
    simp only[xJ] at h;split at h
    .rename_i hc;simp only[aSV] at hc;simp only[aSk] at h;subst h;have hnm:k∉sA a.ws.reverse:=fun hmem=>by
      have:=G7.2 ((QC _ _).1 hmem);rw[hc] at this;cases this
     refine⟨by simp [ha.n],by simpa using ha.m.tok (b0:= .grow e c m) hb hnm,?_⟩;simp only[aS0];obtain⟨h1,h2⟩:=hs.1;refine DI (KW (KV g w _ _) ha.args) ⟨⟨?_,h2⟩,trivial⟩;show zO g (a.ws.reverse++[rK.tok k])[a.n]? n=_;rw[ha.n,aSt (aSE _),aTR];exact h1
    .cases h
   |map=>simp [xJ] at h
   |iter=>simp [xJ] at h
   |dead=>simp [xJ] at h
 .rename_i ks f cs k';obtain⟨vs,hv1,hv2⟩: ∃vs,yA g cs vs/\v= .func (.func f) #[] vs.toArray:=by
   rcases hs.1 with⟨h1,_⟩ |⟨_,vs,h2,h3⟩
   .cases h1
   simp only[aS4,and_true] at h3;exact⟨vs,h2,h3⟩
  obtain⟨z1,ids',z2,_,z4⟩:=aAU hH (ids:=[]) (a:=a) (us:=[]) ha hv1 rfl h;refine⟨z1.n,z1.m,?_⟩;rw[z2];simp only[aS0];exact DI z1.args ⟨.inr ⟨rfl,vs,by simpa using z4,by rw[hv2]⟩,trivial⟩
 .rename_i i o k;obtain⟨p,hp,hv⟩:=x7 hs.1;rw[a0B,List.append_nil] at h;cases hc:CV i o a.ws.reverse 0 with
  |none=>rw[hc] at h;cases h
  |some q=>
   obtain⟨c,q⟩:=q;rw[hc] at h;simp only[P8,aSk] at h;subst h;obtain⟨d,u,x,toks,oc,rfl,h2,rfl⟩:=NA hc;refine⟨ha.n,ha.m,?_⟩;simp only[aS0];refine DI ha.args ⟨.inr ⟨rfl,⟨p.1,p.2+oc,p.3⟩,?_,by rw[hv];simp [aS3]⟩,trivial⟩;show uW g a.ws.reverse[0+d]? =_;rw[aSS,h2];simp [uW,hp]
 cases h
def aAW {g:Gh}{w:pN}{H:s5}(hH:s9 g w H): ∀{ps:List PK}{ss:List pX}{vs vals:pJ}{a a':sQ},BO g w H vals a->vG g w ss vs->xM H ps ss (some a)=some a'->BO g w H (vals++vs) a'
 |[],[],vs,vals,a,a',ha,hs,h=>by
  simp only[xM,aSk] at h;subst h;rw[show vs=[] from hs,List.append_nil];exact ha
 |p::ps,s::ss,vs,vals,a,a',ha,⟨v,vs',e,h1,h2⟩,h=>by
  simp only[xM] at h;cases ho:xL H a p s with
  |none=>rw[ho] at h;cases ps<;>cases ss<;>simp [xM] at h
  |some a1=>
   rw[ho] at h;have:=aAW hH (aAV hH ha h1 ho) h2 h;rw[e];simpa using this
 |[],_::_,_,_,_,_,_,_,h=>by simp [xM] at h
 |_::_,[],_,_,_,_,_,_,h=>by simp [xM] at h
def BO.nil (g:Gh) (w:pN) (H:s5):BO g w H [] ⟨[],[],[],0⟩:=
 ⟨rfl,⟨rfl,fun c wh b h _=>by simp at h,by simp [sA]⟩,rfl⟩
def aAX: ∀(l:List pW) (n:Nat),HQ l n=l[n]?
 |[],_=>by simp [HQ]
 |_::_,0=>rfl
 |_::r,n+1=>by simpa[HQ] using aAX r n
def aJ2 {g:Gh}{w:pN}: ∀{t:Ty}{x:t.den}{cs:pJ}{o:Nat}{y:pK},Rd g w t x cs->C5 t x o=some y->∃cs',BK g y cs':=by
 intro t
 induction t with
 |pair a b iha ihb=>
  intro x cs o y r h;obtain⟨c1,c2,_,r1,r2⟩:=r;simp only[C5] at h;split at h
  .exact iha r1 h
  .exact ihb r2 h
 |rl e u=>
  intro x cs o y r h;cases o with
  |zero=>simp only[C5,aSk] at h;subst h;exact⟨cs,r⟩
  |succ o=>simp [C5] at h
 |_=>intro x cs o y r h;cases o<;>simp [C5] at h
def aJ3 {g:Gh}{w:pN}{H:s5}(hH:s9 g w H) {vals:pJ}{a:sQ}(ha:BO g w H vals a) (c q:Nat) (pk:PK): ∃v,rF g w (JY q pk (HQ a.H c)) v:=by
 rw[aAX];have any: ∃v,rF g w (.any,none) v:=⟨undef,trivial,trivial⟩;cases hb:a.H[c]? with
 |none=>cases pk<;>exact any
 |some b=>
  cases b with
  |cells t y ts=>
   have hlt:c<a.H.length:=(aSz.1 hb).1;have hb':a.H.reverse[a.H.length-1-c]? =some (.cells t y ts):=by
    rw[List.getElem?_reverse pC,show a.H.length-1- (a.H.length-1-c)=c by omega];exact hb
   obtain⟨wh,hwh⟩: ∃wh,a.ws.reverse[a.H.length-1-c]? =some wh:=by
    have hl:=ha.m.len;simp only[List.length_reverse] at hl;exact⟨_,aSu (by rw[List.length_reverse];omega)⟩
   have hw:=ha.m.ok _ wh _ hwh hb';cases wh with
   |tok k=>exact hw.elim
   |box i u x toks off=>
    obtain⟨h1,h2,_⟩:=hw;obtain⟨p,cs,hp,hR,_⟩:=hH.blk i _ h1;obtain⟨c1,c2,c3,hcs,hl,hR2⟩:=BL hR h2;cases pk with
    |p t' os=>
     simp only[JY];cases hg:qT .ref t y q with
     |none=>exact any
     |some z=>
      cases z with
      |none=>exact any
      |some z=>
       obtain⟨d1,d2,d3,_,_,hR3⟩:=BL hR2 hg;obtain⟨p',hp',e⟩:=hR3;exact⟨_,.inr ⟨rfl,p',hp',rfl⟩,trivial⟩
    |m=>
     simp only[JY];cases hg:qT .mp t y q with
     |none=>exact any
     |some z=>
      cases z with
      |none=>exact any
      |some z=>
       obtain⟨d1,d2,d3,_,_,hR3⟩:=BL hR2 hg;obtain⟨p',hp',e⟩:=hR3;exact⟨_,.inr ⟨rfl,p',hp',rfl⟩,trivial⟩
    |v=>exact any
    |own=>exact any
    |f ks=>exact any
    |q=>exact any
    |r=>
     simp only[JY];cases hg:C5 t y q with
     |none=>exact any
     |some z=>
      cases z with
      |none=>exact any
      |some z=>
       obtain⟨cs',hR3⟩:=aJ2 hR2 hg;obtain⟨v,hv,_,hsh⟩:=hR3;exact⟨v,⟨hv,hsh⟩,trivial⟩
  |_=>cases pk<;>exact any
def aAY {g:Gh}{w:pN}{H:s5}(hH:s9 g w H) {vals:pJ}: ∀{gs:List (Nat×Nat×PK)}{a a':sQ},BO g w H vals a->BD H gs (some a)=some a'->BO g w H vals a'
 |[],a,a',ha,h=>by
  simp only[BD,aSk] at h;subst h;exact ha
 |(c,q,pk)::gs,a,a',ha,h=>by
  simp only[BD] at h;obtain⟨v,hv⟩:=aJ3 hH ha (a.n-1-c) q pk;cases hp:xL H a pk (JY q pk (HQ a.H (a.n-1-c))) with
  |none=>
   rw[hp] at h;simp only[MR] at h;cases gs<;>simp [BD] at h
  |some b=>
   rw[hp] at h;simp only[MR] at h;have hb:=aAV hH ha hv hp;refine aAY hH (a:=⟨a.args,b.H,b.ws,b.n⟩) ⟨hb.n,hb.m,?_⟩ h;obtain⟨s,more,e1,e2⟩: ∃s more,b.args=s::a.args/\b.ws.reverse=a.ws.reverse++more:=by
    have hp':=hp;unfold xL at hp';split at hp'
    .simp only[SS,aSk] at hp';subst hp';exact⟨_,[],rfl,by simp⟩
    .simp only[SR] at hp';split at hp'
     .simp only[aSk] at hp';subst hp';exact⟨_,[],rfl,by simp⟩
     cases hp'
    .simp only[ST,aSk] at hp';subst hp';exact⟨_,[],rfl,by simp⟩
    .unfold C2 at hp';split at hp'
     .split at hp'
      .simp only[aSk] at hp';subst hp';exact⟨_,[_],rfl,aS0 ..⟩
      cases hp'
     cases hp'
    .unfold vR at hp';split at hp'
     .unfold EL at hp';split at hp'
      .split at hp'
       .obtain⟨ks,bs,_,_,h3,_,h5,_⟩:=V9 hp';exact⟨_,_,h3,by rw[h5];simp only[aS0];exact aSv ..⟩
       cases hp'
      cases hp'
     cases hp'
    .unfold C3 at hp';split at hp'
     .split at hp'
      .simp only[aSk] at hp';subst hp';exact⟨_,[_],rfl,aS0 ..⟩
      cases hp'
     cases hp'
    .unfold xJ at hp';split at hp'
     .split at hp'
      .simp only[aSk] at hp';subst hp';exact⟨_,[_],rfl,aS0 ..⟩
      cases hp'
     .split at hp'
      .simp only[aSk] at hp';subst hp';exact⟨_,[_],rfl,aS0 ..⟩
      cases hp'
     cases hp'
    .exact aAT hp'
    .unfold P8 at hp';split at hp'
     .simp only[aSk] at hp';subst hp';exact⟨_,[],rfl,by simp⟩
     cases hp'
    cases hp'
   rw[e2];exact KW (KV g w _ _) ha.args
def aJ4 {b:Option pW}{l:Option (List pW)}{r:List pW}(h:Y3 b l=some r): ∃b' l',b=some b'/\l=some l'/\r=b'::l':=by
 cases b<;>cases l<;>simp [Y3] at h
 exact⟨_,_,rfl,rfl,h.symm⟩
def aAZ {W:List rK}: ∀{L0 L:List pW},HR W L0=some L->L.length=L0.length/\∀(c:Nat) (b:pW),L[c]? =some b->∃b0,L0[c]? =some b0/\JZ W b0=some b
 |[],L,h=>by
  simp only[HR,aSk] at h;subst h;exact⟨rfl,fun c b h=>by simp at h⟩
 |b0::L0,L,h=>by
  simp only[HR] at h;obtain⟨b',l',h1,h2,rfl⟩:=aJ4 h;obtain⟨k1,k2⟩:=aAZ h2;refine⟨by simp [k1],fun c b hc=>?_⟩;cases c with
  |zero=>simp only[aSY,aSk] at hc;subst hc;exact⟨b0,rfl,h1⟩
  |succ c=>obtain⟨b1,q1,q2⟩:=k2 c b (by simpa using hc);exact⟨b1,by simpa using q1,q2⟩
def G6.ren {H:s5}{ws:List rK}{L0 L:List pW}(h:G6 H ws L0) (hc:HR ws L0=some L):QB H ws L:=by
 obtain⟨k1,k2⟩:=aAZ hc;refine⟨h.len.trans k1.symm,fun c wh b hw hb=>?_,h.nodup⟩;obtain⟨b0,q1,q2⟩:=k2 c b hb;have hok:=h.ok c wh b0 hw q1;cases b0 with
 |cells t y ts=>
  cases wh with
  |tok k=>exact hok.elim
  |box i u x toks o=>
   obtain⟨h1,h2,h3⟩:=hok;simp only[JZ] at q2;split at q2
   .rename_i hp;obtain rfl:=aSo q2;exact⟨h1,⟨y,h2,.inl ⟨hp,rfl⟩⟩,h3⟩
   .cases hy:C6 ws t y with
    |none=>rw[hy] at q2;cases q2
    |some z=>
     rw[hy] at q2;obtain rfl:=aSo q2;exact⟨h1,⟨y,h2,.inr hy⟩,h3⟩
 |_=>
  simp only[JZ,aSk] at q2;subst q2;cases wh<;>exact hok
theorem zP: ∀(W:List rK) (c:Nat),yS W c=W[c]?
  |[],c=>by simp [yS]
  |_::_,0=>rfl
  |_::W,c+1=>by simpa[yS] using zP W c
theorem aA0: ∀L:List pW,qV L=L.length
  |[]=>rfl
  |_::L=>by simp [qV,aA0 L]
theorem aA1 {α:Type}: ∀(l acc:List α),yR l acc=l.reverse++acc
  |[],_=>rfl
  |x::l,acc=>by simp [yR,aA1 l]
theorem a0C {a:Option (Nat×pW)}{b:Option (List (Nat×pW))}{l:List (Nat×pW)}(h:PB a b=some l): ∃q r,a=some q∧b=some r∧l=q::r:=by
  cases a<;>cases b<;>simp [PB] at h
  exact⟨_,_,rfl,rfl,h.symm⟩
def I9 (base n:Nat) (W ws:List rK) (R:List pW) (c0:Nat) (id:Nat) (b:pW):Prop:=
  (∃(c:Nat) (i:Nat) (u:Ty) (x:u.den) (toks:pH) (o:Nat) (b0:pW),ws[c]? =some (.box i u x toks o)∧id=i∧R[c]? =some b0∧xN base n i o W u x toks b0=some (i,b))∨
  (∃(c k:Nat) (b0:pW),ws[c]? =some (.tok k)∧id=k∧R[c]? =some b0∧w8 k b0=some (k,b))∨
  (∃(c:Nat) (b0:pW),R[c]? =some b0∧id=base+(c0+c)∧ws[c]? =none∧y8 base n (c0+c) W b0=some (id,b))
theorem I9.succ {base n:Nat}{W:List rK}{wh:rK}{ws:List rK}{b0:pW}{R:List pW}{c0 id:Nat}{b:pW}(h:I9 base n W ws R (c0+1) id b):I9 base n W (wh::ws) (b0::R) c0 id b:=by
  rcases h with⟨c,i,u,x,toks,o,b1,h1,h2,h3,h4⟩ |⟨c,k,b1,h1,h2,h3,h4⟩ |⟨c,b1,h1,h2,h3,h4⟩
  .exact .inl ⟨c+1,i,u,x,toks,o,b1,by simpa using h1,h2,by simpa using h3,h4⟩
  .exact .inr (.inl ⟨c+1,k,b1,by simpa using h1,h2,by simpa using h3,h4⟩)
  exact .inr (.inr ⟨c+1,b1,by simpa using h1,by rw[h2];omega,by simpa using h3,by rw[show c0+(c+1)=c0+1+c from by omega];exact h4⟩)
theorem I9.succ0 {base n:Nat}{W:List rK}{b0:pW}{R:List pW}{c0 id:Nat}{b:pW}(h:I9 base n W [] R (c0+1) id b):I9 base n W [] (b0::R) c0 id b:=by
  rcases h with⟨c,i,u,x,toks,o,b1,h1,_⟩ |⟨c,k,b1,h1,_⟩ |⟨c,b1,h1,h2,h3,h4⟩
  .simp at h1
  .simp at h1
  exact .inr (.inr ⟨c+1,b1,by simpa using h1,by rw[h2];omega,by simp,by rw[show c0+(c+1)=c0+1+c from by omega];exact h4⟩)
theorem aA2 {i:Nat}{t:Ty}{ts:pH}{o:Option t.den}{q:Nat×pW}(h:a9m i t ts o=some q): ∃y,o=some y∧q=(i,.cells t y ts):=by
  cases o with
  |none=>cases h
  |some y=>exact⟨y,rfl,(aSo h).symm⟩
theorem aJ5 {base n c:Nat}{W:List rK}{b:pW}{q:Nat×pW}(h:y8 base n c W b=some q):q.1=base+c:=by
  cases b<;>simp only[y8] at h
  · split at h
    .exact(aSo h)▸rfl
    obtain⟨y,_,rfl⟩:=aA2 h;rfl
  .exact(aSo h)▸rfl
  · split at h
    .exact(aSo h)▸rfl
    cases h
  · split at h
    .exact(aSo h)▸rfl
    cases h
  .cases h
  exact(aSo h)▸rfl
def bY (base n:Nat) (W:List rK) (t:Ty) (x y:t.den):Prop:=(t.pure=true∧y=x)∨BE base n W t x=some y
theorem a0D {base n i o:Nat}{W:List rK}{u t:Ty}{x:u.den}{y:t.den}{toks ts:pH}{q:Nat×pW}(h:xN base n i o W u x toks (.cells t y ts)=some q):
    ∃y2 z,bY base n W t y y2∧sD t y2 u x o=some z∧q=(i,.cells u z (qS (DB base n W o ts) (t6 toks o t.cells))):=by
  simp only[xN] at h;split at h
  · rename_i hp
    cases hs:sD t y u x o with
    |none=>rw[hs] at h;simp [SX] at h
    |some z=>rw[hs] at h;exact⟨y,z,.inl ⟨hp,rfl⟩,hs,(aSo h).symm⟩
  cases hy:BE base n W t y with
  |none=>rw[hy] at h;cases h
  | some y2=>
    rw[hy] at h;simp only[a9n] at h;cases hs:sD t y2 u x o with
    |none=>rw[hs] at h;simp [SX] at h
    |some z=>rw[hs] at h;exact⟨y2,z,.inr hy,hs,(aSo h).symm⟩
theorem aJ6 {k:Nat}{b:pW}{q:Nat×pW}(h:w8 k b=some q):q.1=k:=by
  cases b<;>simp only[w8] at h
  .cases h
  .exact(aSo h)▸rfl
  · split at h
    .exact(aSo h)▸rfl
    cases h
  · split at h
    .exact(aSo h)▸rfl
    cases h
  .cases h
  exact(aSo h)▸rfl
theorem aJ7 {base n i o:Nat}{W:List rK}{u:Ty}{x:u.den}{toks:pH}{b:pW}{q:Nat×pW}(h:xN base n i o W u x toks b=some q):q.1=i:=by
  cases b with
  |cells t y ts=>obtain⟨y2,z,_,_,rfl⟩:=a0D h;rfl
  |grow=>simp [xN] at h
  |row=>simp [xN] at h
  |map=>simp [xN] at h
  |iter=>simp [xN] at h
  |dead=>simp only[xN,aSk] at h;exact h▸rfl
theorem NB {base n:Nat}{W:List rK}: ∀{ws:List rK}{R:List pW}{c0:Nat}{upd:List (Nat×pW)},BF base n W c0 ws R=some upd→
    ws.length≤R.length∧(∀id b,pZ upd id=some b→I9 base n W ws R c0 id b)∧(∀id,id∈qB upd→∃b,pZ upd id=some b)∧
    (∀(c:Nat) wh,ws[c]? =some wh→wh.id∈qB upd)∧(∀(c:Nat) b,R[c]? =some b→ws[c]? =none→base+(c0+c)∈qB upd)
  | [],[],_,upd,h=>by
    simp only[BF,aSk] at h;subst h;exact⟨aSE _,fun _ _ h=>by simp [pZ] at h,fun _ h=>by simp [qB] at h,fun _ _ h=>by simp at h,fun _ _ h=>by simp at h⟩
  | [],b::R,c0,upd,h=>by
    simp only[BF] at h;obtain⟨q,r,h1,h2,rfl⟩:=a0C h;obtain⟨k1,k2,k3,k4,k5⟩:=NB h2;have hq:=aJ5 h1;obtain⟨q1,q2⟩:=q;simp only at hq;subst hq;refine⟨by simp,fun id b' hg=>?_,fun id hi=>?_,fun c wh hw=>by simp at hw,fun c b' hb hn=>?_⟩
    · simp only[pZ] at hg
      split at hg
      · rename_i e
        obtain rfl:=aSo hg;subst e;exact .inr (.inr ⟨0,b,rfl,rfl,by simp,h1⟩)
      exact(k2 id b' hg).succ0
    · simp only[pZ]
      by_cases e:base+c0=id
      .rw[aSj e];exact⟨_,rfl⟩
      rw[aSl e]
      simp only[qB,aSx] at hi;exact k3 id (hi.resolve_left (Ne.symm e))
    · cases c with
      |zero=>simp [qB]
      | succ c=>
        have:=k5 c b' (by simpa using hb) pE;simp only[qB,aSx];right;rw[show base+(c0+(c+1))=base+(c0+1+c) from by omega];exact this
  | .box i u x toks o::ws,[],c0,upd,h=>by simp [BF] at h
  | .tok k::ws,[],c0,upd,h=>by simp [BF] at h
  | .box i u x toks o::ws,b::R,c0,upd,h=>by
    simp only[BF] at h;obtain⟨q,r,h1,h2,rfl⟩:=a0C h;obtain⟨k1,k2,k3,k4,k5⟩:=NB h2;have hq:=aJ7 h1;obtain⟨q1,q2⟩:=q;simp only at hq;subst hq;refine⟨by simp;omega,fun id b' hg=>?_,fun id hi=>?_,fun c wh hw=>?_,fun c b' hb hn=>?_⟩
    · simp only[pZ] at hg
      split at hg
      · rename_i e
        obtain rfl:=aSo hg;subst e;exact .inl ⟨0,q1,u,x,toks,o,b,rfl,rfl,rfl,h1⟩
      exact(k2 id b' hg).succ
    · simp only[pZ]
      by_cases e:q1=id
      .rw[aSj e];exact⟨_,rfl⟩
      rw[aSl e]
      simp only[qB,aSx] at hi;exact k3 id (hi.resolve_left (Ne.symm e))
    · cases c with
      |zero=>simp only[aSY,aSk] at hw;subst hw;simp [qB,rK.id]
      |succ c=>simp only[qB,aSx];exact .inr (k4 c wh (by simpa using hw))
    · cases c with
      |zero=>simp at hn
      | succ c=>
        have:=k5 c b' (by simpa using hb) (by simpa using hn);simp only[qB,aSx];right;rw[show base+(c0+(c+1))=base+(c0+1+c) from by omega];exact this
  | .tok k::ws,b::R,c0,upd,h=>by
    simp only[BF] at h;obtain⟨q,r,h1,h2,rfl⟩:=a0C h;obtain⟨k1,k2,k3,k4,k5⟩:=NB h2;have hq:=aJ6 h1;obtain⟨q1,q2⟩:=q;simp only at hq;subst hq;refine⟨by simp;omega,fun id b' hg=>?_,fun id hi=>?_,fun c wh hw=>?_,fun c b' hb hn=>?_⟩
    · simp only[pZ] at hg
      split at hg
      · rename_i e
        obtain rfl:=aSo hg;subst e;exact .inr (.inl ⟨0,q1,b,rfl,rfl,rfl,h1⟩)
      exact(k2 id b' hg).succ
    · simp only[pZ]
      by_cases e:q1=id
      .rw[aSj e];exact⟨_,rfl⟩
      rw[aSl e]
      simp only[qB,aSx] at hi;exact k3 id (hi.resolve_left (Ne.symm e))
    · cases c with
      |zero=>simp only[aSY,aSk] at hw;subst hw;simp [qB,rK.id]
      |succ c=>simp only[qB,aSx];exact .inr (k4 c wh (by simpa using hw))
    cases c with
    |zero=>simp at hn
    | succ c=>
      have:=k5 c b' (by simpa using hb) (by simpa using hn);simp only[qB,aSx];right;rw[show base+(c0+(c+1))=base+(c0+1+c) from by omega];exact this
def tJ (g g':Gh) (base:Nat) (W:List rK) (ids:pM):Gh:=
  ⟨g'.S,fun i=>if base≤i∧i∈ids then g'.J (i-base) else match vS i W 0 with|some c=>g'.J c|none=>g.J i,
   fun i=>if base≤i∧i∈ids then g'.cur (i-base) else match vS i W 0 with|some c=>g'.cur c|none=>g.cur i⟩
theorem QD {n c:Nat}{wh:Option rK}:MS n c wh=true↔c<n∧wh=none:=by
  cases wh with
  |none=>simp [MS]
  |some wh=>simp [MS]
theorem aJ8 {base n c i:Nat}{wh:Option rK}(h:zI base n c wh=some i):wh=some (.tok i)∨(wh=none∧c<n∧i=base+c):=by
  cases wh with
  | none=>
    simp only[zI] at h;split at h
    .rename_i hc;exact .inr ⟨rfl,hc,(aSo h).symm⟩
    .cases h
  | some wh=>
    cases wh with
    |box=>cases h
    |tok k=>simp only[zI,aSk] at h;subst h;exact .inl rfl
theorem VA {i:Nat}: ∀{ws:List rK}{c0:Nat},(∀c:Nat,ws[c]? ≠some (.tok i))→vS i ws c0=none
  |[],_,_=>rfl
  | .tok j::r,c0,h=>by
    simp only[vS];split
    .rename_i e;subst e;exact absurd rfl (h 0)
    .exact VA (fun c=>by have:=h (c+1);simpa using this)
  | .box _ _ _ _ _::r,c0,h=>by
    simp only[vS];exact VA (fun c=>by have:=h (c+1);simpa using this)
theorem aJ9 {i c:Nat}{ws:List rK}(hnd:(sA ws).Nodup) (h:ws[c]? =some (.tok i)):vS i ws 0=some c:=by
  cases hc:vS i ws 0 with
  | none=>
    exfalso
    have: ∀{ws:List rK}{c0 c:Nat},ws[c]? =some (.tok i)→vS i ws c0≠none:=by
      intro ws
      induction ws with
      |nil=>intro c0 c h;simp at h
      | cons wh r ih=>
        intro c0 c h;cases c with
        | zero=>
          simp only[aSY,aSk] at h;subst h;simp [vS]
        | succ c=>
          simp only[aS7] at h;cases wh with
          |box=>exact ih h
          | tok j=>
            simp only[vS];split
            .simp
            exact ih h
    exact this h hc
  | some d=>
    obtain⟨d',e1,h2⟩:=I7 hc;rw[aSS] at e1;subst e1;rw[V8 hnd h h2 rfl]
theorem Fr.mono {A B:Nat→Nat→Prop}{w w':pN}{S S':Nat→Nat→Prop}(h:Fr A w w' S S') (hAB: ∀b o,A b o→B b o):Fr B w w' S S':=
  ⟨h.os,h.tape,h.output,h.size,fun b hb hn=>h.blk b hb (fun o ho=>hn o (hAB b o ho)),fun b o hb hn=>h.cell b o hb (fun ho=>hn (hAB b o ho)),fun b o hs=>(h.new b o hs).imp id (Or.imp id (hAB b o)),fun b s hs=>(h.shape b s hs).imp id fun h o=>hAB b o (h o)⟩
theorem VB {base n:Nat}{W:List rK}{o:Nat}: ∀{ts:pH}{q k:Nat},(q,k)∈DB base n W o ts→∃q' c,(q',c)∈ts∧zI base n c (yS W c)=some k∧q=o+q'
  |[],_,_,h=>by simp [DB] at h
  | (q',c)::r,q,k,h=>by
    simp only[DB] at h;cases hn:zI base n c (yS W c) with
    | none=>
      rw[hn] at h;obtain⟨a,b,h1,h2⟩:=VB h;exact⟨a,b,aSy _ h1,h2⟩
    | some k'=>
      rw[hn] at h;rcases aSx.1 h with h|h
      · simp only[aSP] at h
        obtain⟨rfl,rfl⟩:=h;exact⟨q',c,by simp,hn,rfl⟩
      obtain⟨a,b,h1,h2⟩:=VB h
      exact⟨a,b,aSy _ h1,h2⟩
theorem wK {α:Type}{x:α}: ∀{l m:List α},x∈qS l m↔x∈l∨x∈m
  |[],m=>by simp [qS]
  |y::l,m=>by simp [qS,wK (l:=l),or_assoc]
theorem a0E: ∀{toks:pH}{off n q k:Nat},(q,k)∈t6 toks off n→(q,k)∈toks∧¬(off≤q∧q<off+n)
  |[],_,_,_,_,h=>by simp [t6] at h
  | (q',k')::r,off,n,q,k,h=>by
    simp only[t6] at h;split at h
    · obtain⟨h1,h2⟩:=a0E h
      exact⟨aSy _ h1,h2⟩
    rename_i hn
    rcases aSx.1 h with h|h
    · cases h
      exact⟨by simp,hn⟩
    obtain⟨h1,h2⟩:=a0E h
    exact⟨aSy _ h1,h2⟩
section
variable {g g':Gh}{w w':pN}{H:s5}{W:List rK}{L:List pW}{r:qI}{v:pO}{base:Nat}{upd:List (Nat×pW)}
variable (hH:s9 g w H) (hm:QB H W L) (hr:EX (uX g W) w L r g' w' v) (hb:BF base r.H.length W 0 W r.H=some upd) (hf: ∀i,i∈qB upd→base≤i→g.J i=none∧∀n,g.cur i n=none)
include hH hm hr hb hf
theorem DJ {c:Nat}{wh:rK}(hw:W[c]? =some wh):wh.id∈qB upd∧wh.id<base∧∃b,L[c]? =some b∧V6 H W wh b:=by
  have hin:=(NB hb).2.2.2.1 c wh hw;have hlt:c<L.length:=hm.len▸(aSz.1 hw).1;have hok:=hm.ok c wh _ hw (aSu hlt);refine⟨hin,Nat.lt_of_not_le fun hle=>?_,_,aSu hlt,hok⟩;have hfr:=hf _ hin hle;cases wh with
  | box i u x toks o=>
    cases hL:L[c] with
    | cells t y ts=>
      rw[hL] at hok;obtain⟨p,cs,hp,_⟩:=hH.blk i _ hok.1;rw[show (rK.box i u x toks o).id=i from rfl] at hfr;rw[hfr.1] at hp;cases hp
    |_=>rw[hL] at hok;exact hok.elim
  | tok k=>
    cases hL:L[c] with
    | grow e cc m=>
      rw[hL] at hok;obtain⟨v,xs,hv,_⟩:=hH.blk k _ hok;rw[show (rK.tok k).id=k from rfl] at hfr;rw[hfr.2] at hv;cases hv
    | map s t l=>
      rw[hL] at hok;obtain⟨p,es,cl,hp,_⟩:=hH.blk k _ hok.1;rw[show (rK.tok k).id=k from rfl] at hfr;rw[hfr.1] at hp;cases hp
    | row e t l m=>
      rw[hL] at hok;obtain⟨_,v,xs,hv,_⟩:=hH.blk k _ hok.1;rw[show (rK.tok k).id=k from rfl] at hfr;rw[hfr.2] at hv;cases hv
    |_=>rw[hL] at hok;exact hok.elim
theorem aKa {c:Nat}(hc:c<r.H.length) (hn:W[c]? =none):base+c∈qB upd:=by
  have:=(NB hb).2.2.2.2 c _ (aSu hc) hn;simpa using this
theorem KX {c:Nat}(hc:c<r.H.length) (hn:W[c]? =none):(tJ g g' base W (qB upd)).J (base+c)=g'.J c∧(tJ g g' base W (qB upd)).cur (base+c)=g'.cur c:=by
  have hin:=aKa hH hm hr hb hf hc hn;refine⟨?_,?_⟩
  · show (if base≤base+c∧base+c∈qB upd then _ else _)=_
    rw[aSj ⟨pC,hin⟩,aS9]
  show (if base≤base+c∧base+c∈qB upd then _ else _)=_
  rw[aSj ⟨pC,hin⟩,aS9]
theorem aA3 {i:Nat}(hi: ¬(base≤i∧i∈qB upd)) (hn:vS i W 0=none):(tJ g g' base W (qB upd)).J i=g.J i∧(tJ g g' base W (qB upd)).cur i=g.cur i:=by
  refine⟨?_,?_⟩
  · show (if base≤i∧i∈qB upd then _ else _)=_
    rw[aSl hi,hn]
  show (if base≤i∧i∈qB upd then _ else _)=_
  rw[aSl hi,hn]
theorem aA4 {c k:Nat}(hw:W[c]? =some (.tok k)):(tJ g g' base W (qB upd)).J k=g'.J c∧(tJ g g' base W (qB upd)).cur k=g'.cur c:=by
  have hlt:=(DJ hH hm hr hb hf hw).2.1;simp only[rK.id] at hlt;have hc:=aJ9 hm.nodup hw;refine⟨?_,?_⟩
  · show (if base≤k∧k∈qB upd then _ else _)=_
    rw[aSl pC,hc]
  show (if base≤k∧k∈qB upd then _ else _)=_
  rw[aSl pC,hc]
theorem NC {c i:Nat}{u:Ty}{x:u.den}{toks:pH}{o:Nat}(hw:W[c]? =some (.box i u x toks o)):(tJ g g' base W (qB upd)).J i=g.J i∧(tJ g g' base W (qB upd)).cur i=g.cur i:=by
  have hlt:=(DJ hH hm hr hb hf hw).2.1;simp only[rK.id] at hlt;refine aA3 hH hm hr hb hf pC (VA fun d hd=>?_);have:=V8 hm.nodup hw hd rfl;subst this;rw[hw] at hd;cases hd
theorem G8 {c i:Nat}(hi:zI base r.H.length c W[c]? =some i):(tJ g g' base W (qB upd)).J i=g'.J c∧(tJ g g' base W (qB upd)).cur i=g'.cur c:=by
  rcases aJ8 hi with h|⟨h1,h2,rfl⟩
  .exact aA4 hH hm hr hb hf h
  exact KX hH hm hr hb hf h2 h1
theorem aA5:Le g w (tJ g g' base W (qB upd)) w':=by
  have len: ∀{i c:Nat},vS i W 0=some c→W[c]? =some (.tok i)∧c<L.length:=by
    intro i c h;obtain⟨d,e1,h2⟩:=I7 h;rw[aSS] at e1;subst e1;exact⟨h2,hm.len▸(aSz.1 h2).1⟩
  refine⟨fun b o h=>(hr.shut b o h).1,fun b o h=>(hr.shut b o h).2,fun i p h=>?_,fun i n u h=>?_⟩
  · show (if base≤i∧i∈qB upd then _ else _)=_
    rw[aSl (fun⟨h1,h2⟩=>by rw[(hf i h2 h1).1] at h;cases h)];cases hc:vS i W 0 with
    |none=>exact h
    | some c=>
      obtain⟨h1,h2⟩:=len hc;refine hr.Jt c p h2 ?_;show uW g W[c]? =_;rw[h1];exact h
  show (if base≤i∧i∈qB upd then g'.cur (i-base) else match vS i W 0 with|some c=>g'.cur c|none=>g.cur i) n=_
  rw[aSl (fun⟨h1,h2⟩=>by rw[(hf i h2 h1).2] at h;cases h)];cases hc:vS i W 0 with
  |none=>exact h
  | some c=>
    obtain⟨h1,h2⟩:=len hc;refine hr.cur c n u h2 ?_;show zO g W[c]? n=_;rw[h1];exact h
theorem aKb {t:Ty}{x y:t.den}{cs:pJ}(hx:Rd g' w' t x cs) (h:BE base r.H.length W t x=some y):Rd (tJ g g' base W (qB upd)) w' t y cs:=by
  refine V7 (g:=g') (g':=tJ g g' base W (qB upd)) rfl (BE base r.H.length W) (fun a b x=>rfl) (fun t x=>rfl) (fun _=>rfl) (fun _ _=>rfl) (fun _=>rfl) (fun _=>rfl) (fun _=>rfl) (fun _ _ x y cs h hx=>?_) (fun x y cs h hx=>?_) (fun x y cs h hx=>?_) (fun x y cs h hx=>?_) (fun x y cs h hx=>?_) (fun _=>rfl) hx h
  rotate_left 2
  · obtain⟨c,i,⟨k3,n3⟩,⟨k4,n4⟩⟩:=x
    simp only[BE,a9l,zP] at h;obtain⟨i',k3',k4',e1,e2,e3,rfl⟩:=aAK h;refine a0z (g:=g') (g':=tJ g g' base W (qB upd)) (fun _ _ h=>⟨h,rfl⟩) (fun p hp=>?_) (fun v hv=>?_) (fun v hv=>?_) hx
    · unfold PA at e1
      split at e1
      · rename_i i0 uu x toks o' hwh
        simp only[aSk,aSP] at e1;obtain⟨rfl,h0⟩:=e1;obtain⟨_,hlt,b,hL,hok⟩:=DJ hH hm hr hb hf hwh;cases b with
        | cells t y ts=>
          have hJ:=hr.J i t y ts hL;rw[hp] at hJ;have hJ':uW g W[i]? =some p:=hJ.symm;rw[hwh] at hJ';obtain⟨p0,hp0,rfl⟩:=aSA.1 hJ';exact⟨p0,by rw[(NC hH hm hr hb hf hwh).1];exact hp0,rfl,by simp;omega⟩
        |_=>exact hok.elim
      split at e1
      · rename_i hn
        simp only[aSk,aSP] at e1;obtain⟨rfl,-⟩:=e1;obtain⟨h1,h2⟩:=QD.1 hn;exact⟨p,by rw[(KX hH hm hr hb hf h1 h2).1];exact hp,rfl,rfl⟩
      cases e1
    .rw[(G8 hH hm hr hb hf e2).2];exact hv
    rw[(G8 hH hm hr hb hf e3).2];exact hv
  rotate_left 2
  · cases x with
    |none=>cases h;exact hx
    | some q=>
      obtain⟨c,n⟩:=q;simp only[BE,a9k,zP] at h;obtain⟨i,hi,rfl⟩:=aSA.1 h;obtain⟨v,hv,hs⟩:=hx;exact⟨v,by rw[(G8 hH hm hr hb hf hi).2];exact hv,hs⟩
  · cases x with
    |none=>cases h;exact hx
    | some q=>
      obtain⟨c,o⟩:=q;simp only[BE,K1] at h;obtain⟨p,hp,hv⟩:=hx;unfold K1.back2 at h;split at h
      · rename_i i uu x toks o' hwh
        cases h;rw[zP] at hwh;obtain⟨_,hlt,b,hL,hok⟩:=DJ hH hm hr hb hf hwh;cases b with
        | cells t y ts=>
          have hJ:=hr.J c t y ts hL;rw[hp] at hJ;have hJ':uW g W[c]? =some p:=hJ.symm;rw[hwh] at hJ';obtain⟨p0,hp0,rfl⟩:=aSA.1 hJ';exact⟨p0,by rw[(NC hH hm hr hb hf hwh).1];exact hp0,by have:=hv.1;rwa [aS3] at this,hv.2.imp id fun hv=>by rw[hv];simp [aS3]⟩
        |_=>exact hok.elim
      split at h
      · rename_i hn
        cases h;obtain⟨h1,h2⟩:=QD.1 hn;rw[zP] at h2;exact⟨p,by rw[(KX hH hm hr hb hf h1 h2).1];exact hp,hv⟩
      cases h
  · cases x with
    |none=>cases h;exact hx
    | some q=>
      obtain⟨c,o⟩:=q;simp only[BE,K1] at h;obtain⟨p,hp,hv⟩:=hx;unfold K1.back2 at h;split at h
      · rename_i i uu x toks o' hwh
        cases h;rw[zP] at hwh;obtain⟨_,hlt,b,hL,hok⟩:=DJ hH hm hr hb hf hwh;cases b with
        | cells t y ts=>
          have hJ:=hr.J c t y ts hL;rw[hp] at hJ;have hJ':uW g W[c]? =some p:=hJ.symm;rw[hwh] at hJ';obtain⟨p0,hp0,rfl⟩:=aSA.1 hJ';exact⟨p0,by rw[(NC hH hm hr hb hf hwh).1];exact hp0,by rw[hv];simp [aS3]⟩
        |_=>exact hok.elim
      split at h
      · rename_i hn
        cases h;obtain⟨h1,h2⟩:=QD.1 hn;rw[zP] at h2;exact⟨p,by rw[(KX hH hm hr hb hf h1 h2).1];exact hp,hv⟩
      cases h
  cases x with
  |none=>cases h;exact hx
  | some c=>
    simp only[BE,a9j,zP] at h;obtain⟨i,hi,rfl⟩:=aSA.1 h;obtain⟨p,hp,hv⟩:=hx;exact⟨p,by rw[(G8 hH hm hr hb hf hi).1];exact hp,hv⟩
theorem aA6 {t:Ty}{x y:t.den}{cs:pJ}(hx:Rd g' w' t x cs) (h:bY base r.H.length W t x y):Rd (tJ g g' base W (qB upd)) w' t y cs:=by
  rcases h with⟨hp,rfl⟩ |h
  .exact vU (g:=g') (g':=tJ g g' base W (qB upd)) rfl hp hx
  exact aKb hH hm hr hb hf hx h
omit hH hm hr hb hf in
theorem aA7 {n:Nat}{t u:Ty}{x y:t.den}{o:Nat}{l:List u.den}(h:bY base n W t x y) (hg:qT (.list u) t x o=some l):qT (.list u) t y o=some l:=by
  rcases h with⟨_,rfl⟩ |h
  .exact hg
  exact a0y (BE base n W) (fun _ _ _=>rfl) (fun _ _=>rfl) h hg
theorem aA8: ∀(cs:pH) {l:pH}{vs:pJ},yA g' cs vs→MT base r.H.length W cs=some l→yA (tJ g g' base W (qB upd)) l vs
  |[],l,vs,h,e=>by cases e;exact h
  | (c,o)::cs,l,vs,⟨p,vs',hp,hv,hr'⟩,e=>by
    unfold MT at e;cases h1:PA base r.H.length c o (yS W c) with
    |none=>rw[h1] at e;cases e
    | some q=>
      cases h2:MT base r.H.length W cs with
      |none=>rw[h1,h2] at e;cases e
      | some l'=>
        rw[h1,h2] at e;cases e;refine(?_ : ∃p vs',_);have ih:=aA8 cs hr' h2;unfold PA at h1;split at h1
        · rename_i i uu x toks o' hwh
          cases h1;rw[zP] at hwh;obtain⟨_,hlt,b,hL,hok⟩:=DJ hH hm hr hb hf hwh;cases b with
          | cells t y ts=>
            have hJ:=hr.J c t y ts hL;rw[hp] at hJ;have hJ':uW g W[c]? =some p:=hJ.symm;rw[hwh] at hJ';obtain⟨p0,hp0,rfl⟩:=aSA.1 hJ';exact⟨p0,vs',by rw[(NC hH hm hr hb hf hwh).1];exact hp0,by rw[hv];simp [aS3],ih⟩
          |_=>exact hok.elim
        split at h1
        · rename_i hn
          cases h1;obtain⟨h3,h4⟩:=QD.1 hn;rw[zP] at h4;exact⟨p,vs',by rw[(KX hH hm hr hb hf h3 h4).1];exact hp,hv,ih⟩
        cases h1
theorem aKc {s:pX}{u:pO}(h:rF g' w' s u):rF (tJ g g' base W (qB upd)) w' (SW base r.H.length W s) u:=by
  obtain⟨d,k⟩:=s
  have tokk: ∀{t:Ty}(hp:t.pure=true) {x:t.den}{k:pL},(∀c,k=some c→∃u,t= .list u)→rF g' w' (.val t x,k) u→rF (tJ g g' base W (qB upd)) w' (.val t x,K0 base r.H.length W k) u:=by
    intro t hp x k hl h;cases k with
    |none=>exact V2 (g:=g') (g':=tJ g g' base W (qB upd)) (k:=none) (k':=none) rfl hp (fun c e=>by cases e) h (fun c e=>by cases e) (fun _=>rfl)
    | some c=>
      simp only[K0,zP];cases hn:zI base r.H.length c W[c]? with
      | some i=>
        refine V2 (g:=g') (g':=tJ g g' base W (qB upd)) (k:=some c) (k':=some i) rfl hp hl h (fun c' e=>?_) (fun e=>by cases e);cases e;refine⟨_,rfl,fun n u hu=>?_⟩;rw[(G8 hH hm hr hb hf hn).2];exact hu
      | none=>
        exact V2 (g:=g') (g':=tJ g g' base W (qB upd)) (k:=none) (k':=none) rfl hp (fun c e=>by cases e) ⟨h.1,trivial⟩ (fun c e=>by cases e) (fun _=>rfl)
  unfold SW;split
  · rename_i c m k' heq
    simp only[aSP] at heq;obtain⟨rfl,rfl⟩:=heq;simp only[K0,zP];cases hn:zI base r.H.length c W[c]? with
    | some i=>
      obtain⟨h3,h4⟩:=h.1;exact⟨⟨by rw[(G8 hH hm hr hb hf hn).2];exact h3,h4⟩,trivial⟩
    |none=>exact⟨trivial,trivial⟩
  · rename_i c o k' heq
    simp only[aSP] at heq;obtain⟨rfl,rfl⟩:=heq;obtain⟨p,hp,hv⟩:=x7 h.1;unfold a9i;split
    · rename_i i uu x toks o' hwh
      rw[zP] at hwh;obtain⟨_,hlt,b,hL,hok⟩:=DJ hH hm hr hb hf hwh;cases b with
      | cells t y ts=>
        have hJ:=hr.J c t y ts hL;rw[hp] at hJ;have hJ':uW g W[c]? =some p:=hJ.symm;rw[hwh] at hJ';obtain⟨p0,hp0,rfl⟩:=aSA.1 hJ';refine⟨.inr ⟨rfl,p0,by rw[(NC hH hm hr hb hf hwh).1];exact hp0,?_⟩,trivial⟩;rw[hv];simp [aS3]
      |_=>exact hok.elim
    split
    · rename_i hn
      obtain⟨h1,h2⟩:=QD.1 hn;rw[zP] at h2;exact⟨.inr ⟨rfl,p,by rw[(KX hH hm hr hb hf h1 h2).1];exact hp,by rw[hv]⟩,trivial⟩
    exact⟨trivial,trivial⟩
  · rename_i k' heq
    simp only[aSP] at heq;obtain⟨rfl,rfl⟩:=heq;rcases h.1 with⟨h1,_⟩ |⟨h1,h2⟩
    .cases h1
    exact⟨.inr ⟨h1,h2⟩,trivial⟩
  · rename_i c k' heq
    simp only[aSP] at heq;obtain⟨rfl,rfl⟩:=heq;simp only[K0,zP];cases hn:zI base r.H.length c W[c]? with
    | some i=>
      obtain⟨p,hp,hv⟩:KL g' (some c) [u]:=wZ rfl h.1;exact⟨.inr ⟨rfl,p,by rw[(G8 hH hm hr hb hf hn).1];exact hp,hv⟩,trivial⟩
    |none=>exact⟨trivial,trivial⟩
  · rename_i k' heq
    simp only[aSP] at heq;obtain⟨rfl,rfl⟩:=heq;rcases h.1 with⟨h1,_⟩ |⟨h1,h2⟩
    .cases h1
    exact⟨.inr ⟨h1,h2⟩,trivial⟩
  · rename_i f cs k' heq
    simp only[aSP] at heq;obtain⟨rfl,rfl⟩:=heq;cases hc:MT base r.H.length W cs with
    |none=>exact⟨trivial,trivial⟩
    | some l=>
      rcases h.1 with⟨h1,_⟩ |⟨_,vs,h2,h3⟩
      .cases h1
      exact⟨.inr ⟨rfl,vs,aA8 hH hm hr hb hf cs h2 hc,h3⟩,trivial⟩
  · rename_i t x k' hno hno0 hno2 hno3 hno4 heq
    simp only[aSP] at heq;obtain⟨rfl,rfl⟩:=heq;split
    · rename_i hp
      exact tokk hp aJQ (aAI h)
    exact⟨trivial,trivial⟩
  exact⟨trivial,trivial⟩
end
theorem aA9 {g:Gh}{w:pN}{H:s5}{W:List rK}{L:List pW}(hH:s9 g w H) (hm:QB H W L) {bb oo:Nat}(h:yB (uX g W) (qQ 0 L) bb oo):
  ∃(c:Nat) (wh:rK) (b blk:pW),W[c]? =some wh/\L[c]? =some b/\s8 (uX g W) c b bb oo/\pZ H wh.id=some blk/\s8 g wh.id blk bb oo:=by
 obtain⟨c,b,hc,ho⟩:=h;rw[x8] at hc;have hlt:c<W.length:=hm.len▸(aSz.1 hc).1;have hwh:W[c]? =some W[c]:=aSu hlt;have hw:=hm.ok c _ b hwh hc;refine⟨c,W[c],b,?_⟩;generalize W[c]=wh at hwh hw;cases wh with
 |box i u x toks off=>
  cases b with
  |cells t y ts=>
   obtain⟨h1,⟨y0,h2,h3⟩,h4⟩:=hw;obtain⟨p,hp,e1,e2,e3⟩:=ho;have hp':uW g W[c]? =some p:=hp;rw[hwh] at hp';obtain⟨p0,hp0,rfl⟩:=aSA.1 hp';obtain⟨p1,cs,hp1,hR,_⟩:=hH.blk i _ h1;obtain⟨c1,c2,c3,hcs,hl,hR2⟩:=BL hR h2;have l1:=sL hR;have l2:=sL hR2;rw[hcs] at l1;simp only[aSp] at l1;exact⟨_,hwh,hc,⟨_,hp,e1,e2,e3⟩,h1,p0,hp0,e1,by simp at e2;omega,by simp at e3;omega⟩
  |_=>exact hw.elim
 |tok k=>
  cases b with
  |grow e cc m=>
   obtain⟨v,hv,hb⟩:=ho;have hv':zO g W[c]? m=some v:=hv;rw[hwh] at hv';exact⟨_,hwh,hc,⟨v,hv,hb⟩,hw,v,hv',hb⟩
  |map s t l=>
   obtain⟨p,hp,hb⟩:=ho;have hp':uW g W[c]? =some p:=hp;rw[hwh] at hp';exact⟨_,hwh,hc,⟨p,hp,hb⟩,hw.1,p,hp',hb⟩
  |row e t l m=>
   obtain⟨v,hv,hb⟩:=ho;have hv':zO g W[c]? m=some v:=hv;rw[hwh] at hv';exact⟨_,hwh,hc,⟨v,hv,hb⟩,hw.1,v,hv',hb⟩
  |_=>exact hw.elim
section
variable {g g':Gh}{w w':pN}{H:s5}{W:List rK}{L:List pW}{r:qI}{v:pO}{base:Nat}{upd:List (Nat×pW)}
variable (hH:s9 g w H) (hm:QB H W L) (hr:EX (uX g W) w L r g' w' v) (hb:BF base r.H.length W 0 W r.H=some upd) (hf: ∀i,i∈qB upd->base<=i->g.J i=none/\∀n,g.cur i n=none)
include hH hm hr hb hf
theorem a0F {b o:Nat}(h:yB (uX g W) (qQ 0 L) b o):sK g H (qB upd) b o:=by
 obtain⟨c,wh,b0,blk,h1,h2,h3,h4,h5⟩:=aA9 hH hm h;exact⟨wh.id,blk,(DJ hH hm hr hb hf h1).1,h4,h5⟩
theorem aKd:Fr (sK g H (qB upd)) w w' g.S (tJ g g' base W (qB upd)).S:=hr.fr.mono fun _ _ h=>a0F hH hm hr hb hf h
theorem VC {id:Nat}{b:pW}(hi:id∈qB upd) (hg:pZ (qS upd H) id=some b):I9 base r.H.length W W r.H 0 id b:=by
 obtain⟨_,k2,k3,_⟩:=NB hb;obtain⟨b',hb'⟩:=k3 id hi;have:pZ (qS upd H) id=some b':=by
  have: ∀{u:List (Nat×pW)},pZ u id=some b'->pZ (qS u H) id=some b':=by
   intro u
   induction u with
   |nil=>intro h;cases h
   |cons q u ih=>
    intro h;simp only[qS,pZ] at h|-;split
    .rename_i e;rw[aSj e] at h;exact h
    rename_i e;rw[aSl e] at h;exact ih h
  exact this hb'
 rw[this] at hg;obtain rfl:=aSo hg;exact k2 id b' hb'
theorem a0G {c i o:Nat}{u:Ty}{x:u.den}{toks:pH}{b0 b:pW}(hW:W[c]? =some (.box i u x toks o)) (hR:r.H[c]? =some b0) (hbb:xN base r.H.length i o W u x toks b0=some (i,b)):
  zZ (tJ g g' base W (qB upd)) w' i b/\(∀bb oo,s8 (tJ g g' base W (qB upd)) i b bb oo->s8 g i (.cells u x toks) bb oo/\pZ H i=some (.cells u x toks))/\
   ∀bb oo,s8 (tJ g g' base W (qB upd)) i b bb oo->s8 g' c b0 bb oo\/(bb<w.heap.size/\¬yB (uX g W) (qQ 0 L) bb oo):=by
 obtain⟨hin,hlt,bL,hL,hok⟩:=DJ hH hm hr hb hf hW;have hJi:=(NC hH hm hr hb hf hW).1;have hle:=aA5 hH hm hr hb hf;cases bL with
 |grow=>exact hok.elim
 |row=>exact hok.elim
 |map=>exact hok.elim
 |iter=>exact hok.elim
 |dead=>exact hok.elim
 |cells tL yL tsL=>
  obtain⟨h1,h2,h4⟩:=hok;obtain⟨p,cs,hp,hRd,hra,hth,hns,htk⟩:=hH.blk i _ h1;cases b0 with
  |grow=>simp [xN] at hbb
  |row=>simp [xN] at hbb
  |map=>simp [xN] at hbb
  |iter=>simp [xN] at hbb
  |dead=>
   simp only[xN,aSk,aSP,true_and] at hbb;subst hbb;exact⟨trivial,fun _ _ h=>h.elim,fun _ _ h=>h.elim⟩
  |cells t y ts=>
   have htt:=hr.ty c _ _ _ _ _ _ hL hR;subst htt;obtain⟨y2,z,hbY,hset,hq⟩:=a0D hbb
   simp only[aSP,true_and] at hq;subst hq;have hblk:=hr.heap.blk c _ (by rw[x8];exact hR);obtain⟨p',cs',hp',hRd',hra',hth',hns',htk'⟩:=hblk;have hJc:=hr.J c _ _ _ hL;have hpc:g'.J c=some ⟨p.1,p.2+o,p.3⟩:=by
    rw[hJc];show uW g W[c]? =_;rw[hW];simp [uW,hp]
   rw[hpc] at hp';obtain rfl:=aSo hp';have hRdx:Rd (tJ g g' base W (qB upd)) w' u x cs:=wA hle hRd;have hRdy:Rd (tJ g g' base W (qB upd)) w' t y2 cs':=aA6 hH hm hr hb hf hRd' hbY;obtain⟨c1,c2,c3,hcs,hl1,hl2,hz⟩:=Q3 hRdy hRdx hset;subst hcs;subst hl1;have l0:=sL hRd;have l1:=sL hRd';simp only[aSp] at l0;have hfar: ∀q,q<u.cells->¬(c1.length<=q/\q<c1.length+t.cells)->¬yB (uX g W) (qQ 0 L) p.1 (p.2+q):=by
    intro q hq hno hown;obtain⟨c',wh',b',blk',k1,k2,k3,k4,k5⟩:=aA9 hH hm hown;by_cases hcc:c'=c
    .subst hcc;rw[hW] at k1;obtain rfl:=aSo k1;rw[hL] at k2;obtain rfl:=aSo k2;obtain⟨pp,hpp,e1,e2,e3⟩:=k3;have hpp':uW g W[c']? =some pp:=hpp;rw[hW] at hpp';simp only[uW,hp,Option.map_some,aSk] at hpp';subst hpp';simp only at e2 e3;exact hno ⟨pC,pC⟩
    have hid:wh'.id≠i:=fun e=>hcc (V8 hm.nodup k1 hW e);exact hH.dis wh'.id i blk' _ p.1 (p.2+q) hid k4 h1 k5 ⟨p,hp,rfl,pC,pC⟩
   have hlt': ∀q,q<u.cells->p.1<w.heap.size:=fun q hq=>KO (hH.blk i _ h1) (b:=p.1) (o:=p.2+q) ⟨p,hp,rfl,pC,pC⟩;have hkeep: ∀q,q<u.cells->¬(c1.length<=q/\q<c1.length+t.cells)->w'.cell? ⟨p.1,p.2+q,none⟩=w.cell? ⟨p.1,p.2+q,none⟩/\w'.frozen? ⟨p.1,p.2+q,none⟩=w.frozen? ⟨p.1,p.2+q,none⟩:=fun q hq hno=>hr.fr.cell _ _ (hlt' q hq) (hfar q hq hno);refine⟨⟨p,c1++cs'++c3,by rw[hJi];exact hp,hz,fun q vv hv=>?_,⟨fun q hq=>?_,fun h0 s hs=>?_⟩,fun q hq hs=>?_,?_⟩,fun bb oo ho=>⟨?_,h1⟩,fun bb oo ho=>?_⟩
   .by_cases a1:q<c1.length
    .rw[(hkeep q pC pC).1];refine hra q vv ?_;rw[aSv,aSD a1] at hv|-;exact hv
    by_cases a2:q<c1.length+t.cells
    .rw[aSv,aSt pC,aSD pC] at hv;have:=hra' (q-c1.length) vv hv;rwa [show p.2+c1.length+(q-c1.length)=p.2+q from by omega] at this
    rw[aSv,aSt pC,aSt pC] at hv;have hq:q<u.cells:=by
     have:=(aSz.1 hv).1;omega
    rw[(hkeep q hq pC).1];refine hra q vv ?_;rw[aSv,aSt pC,aSt pC,hl2];rw[l1] at hv;exact hv
   .by_cases a1:c1.length<=q/\q<c1.length+t.cells
    .have:=hth'.1 (q-c1.length) pC;rwa [show p.2+c1.length+(q-c1.length)=p.2+q from by omega] at this
    rw[(hkeep q hq a1).1,(hkeep q hq a1).2];exact hth.1 q hq
   .by_cases ht0:0<t.cells
    .exact hth'.2 ht0 s hs
    exact(hr.fr.shape p.1 s (hth.2 h0 s hs)).resolve_right fun h=>hfar 0 h0 pC (h (p.2+0))
   .by_cases a1:c1.length<=q/\q<c1.length+t.cells
    .exact hns' (q-c1.length) pC (by rw[show p.2+c1.length+(q-c1.length)=p.2+q from by omega];exact hs)
    rcases hr.fr.new _ _ hs with k|k|k
    .exact hns q hq k
    .have:=hlt' q hq;omega
    exact hfar q hq a1 k
   .intro q kk hmem;rcases wK.1 hmem with hmem|hmem
    .obtain⟨q',c',k1,k2,rfl⟩:=VB hmem;rw[zP] at k2;obtain⟨u',l,vv,g1,g2,g3⟩:=htk' q' c' k1;have hq':=aAz g1;refine⟨u',l,vv,aAy hset (aA7 hbY g1) hq',?_,?_⟩
     .rw[aSv,aSt pC,aS9,aSD pC];exact g2
     rw[(G8 hH hm hr hb hf k2).2];exact g3
    obtain⟨k1,k2⟩:=a0E hmem;obtain⟨u',l,vv,g1,g2,g3⟩:=htk q kk k1;refine⟨u',l,vv,UX hH hset g1 k2,?_,hle.cur _ _ _ g3⟩;rcases aTl q c1.length with a1|a1
    .rw[aSv,aSD a1] at g2|-;exact g2
    rw[aSv,aSt pC,aSt pC] at g2|-;rw[l1];rw[hl2] at g2;exact g2
   .obtain⟨pp,hpp,e1,e2,e3⟩:=ho;rw[hJi,hp] at hpp;obtain rfl:=aSo hpp;exact⟨p,hp,e1,e2,e3⟩
   obtain⟨pp,hpp,e1,e2,e3⟩:=ho;rw[hJi,hp] at hpp;obtain rfl:=aSo hpp;subst e1;by_cases a1:c1.length<=oo-p.2/\oo-p.2<c1.length+t.cells
   .exact .inl ⟨_,hpc,rfl,by simp only;omega,by simp only;omega⟩
   right;refine⟨hlt' (oo-p.2) pC,?_⟩;have:=hfar (oo-p.2) pC a1;rwa [show p.2+(oo-p.2)=oo from by omega] at this
theorem a0H {c:Nat}{b0 b:pW}(hn:W[c]? =none) (hR:r.H[c]? =some b0) (hbn:y8 base r.H.length c W b0=some (base+c,b)):
  zZ (tJ g g' base W (qB upd)) w' (base+c) b/\∀bb oo,s8 (tJ g g' base W (qB upd)) (base+c) b bb oo->s8 g' c b0 bb oo:=by
 have hc:=(aSz.1 hR).1;obtain⟨hJ,hcur⟩:=KX hH hm hr hb hf hc hn;have hblk:=hr.heap.blk c _ (by rw[x8];exact hR);cases b0 with
 |dead=>
  simp only[y8,aSk,aSP,true_and] at hbn;subst hbn;exact⟨trivial,fun _ _ h=>h.elim⟩
 |grow e m k=>
  simp only[y8,aSk,aSP,true_and] at hbn;subst hbn;obtain⟨u,xs,hv,h1,h2,h3⟩:=hblk;exact⟨⟨u,xs,by rw[hcur];exact hv,h1,fun m hm'=>by rw[hcur];exact h2 m hm',h3⟩,fun bb oo ⟨v',hv',hb'⟩=>⟨v',by rw[hcur] at hv';exact hv',hb'⟩⟩
 |row e t l n=>
  simp only[y8] at hbn;split at hbn
  .rename_i hp;simp only[aSk,aSP,true_and] at hbn;subst hbn;obtain⟨h0,u,xs,hv,h1,h4,h2,h3⟩:=hblk;exact⟨⟨h0,u,xs,by rw[hcur];exact hv,h1,CC (fun _ _ h=>vU (g:=g') (g':=tJ g g' base W (qB upd)) rfl hp h) h4,fun m hm'=>by rw[hcur];exact h2 m hm',h3⟩,fun bb oo ⟨v',hv',hb'⟩=>⟨v',by rw[hcur] at hv';exact hv',hb'⟩⟩
  .cases hbn
 |iter s n=>simp [y8] at hbn
 |map k v l=>
  simp only[y8] at hbn;split at hbn
  .rename_i hp;rw[aSB] at hp;simp only[aSk,aSP,true_and] at hbn;subst hbn;obtain⟨p,es,cl,hp1,hp0,hh,hM,hS⟩:=hblk;exact⟨⟨p,es,cl,by rw[hJ];exact hp1,hp0,hh,Q2 (g:=g') (g':=tJ g g' base W (qB upd)) rfl hp.1 hp.2 hM,hS⟩,fun bb oo ⟨pp,hpp,e⟩=>⟨pp,by rw[hJ] at hpp;exact hpp,e⟩⟩
  .cases hbn
 |cells t y ts=>
  have fin: ∀y2,bY base r.H.length W t y y2->zZ (tJ g g' base W (qB upd)) w' (base+c) (.cells t y2 (DB base r.H.length W 0 ts))/\∀bb oo,s8 (tJ g g' base W (qB upd)) (base+c) (.cells t y2 (DB base r.H.length W 0 ts)) bb oo->s8 g' c (.cells t y ts) bb oo:=by
   intro y2 hbY;obtain⟨p,cs,hp1,hR1,h1,h2,h3,h4⟩:=hblk;refine⟨⟨p,cs,by rw[hJ];exact hp1,aA6 hH hm hr hb hf hR1 hbY,h1,h2,h3,fun q kk hmem=>?_⟩,fun bb oo ⟨pp,hpp,e⟩=>⟨pp,by rw[hJ] at hpp;exact hpp,e⟩⟩;obtain⟨q',c',k1,k2,rfl⟩:=VB hmem;rw[zP] at k2;obtain⟨u',l,vv,g1,g2,g3⟩:=h4 q' c' k1;exact⟨u',l,vv,by rw[aSS];exact aA7 hbY g1,by rw[aSS];exact g2,by rw[(G8 hH hm hr hb hf k2).2];exact g3⟩
  simp only[y8] at hbn;split at hbn
  .rename_i hp;simp only[aSk,aSP,true_and] at hbn;subst hbn;exact fin y (.inl ⟨hp,rfl⟩)
  obtain⟨y2,hy,hq⟩:=aA2 hbn;simp only[aSP,true_and] at hq;subst hq;exact fin y2 (.inr hy)
theorem a0I {c k:Nat}{b0 b:pW}(hW:W[c]? =some (.tok k)) (hR:r.H[c]? =some b0) (hbk:w8 k b0=some (k,b)):
  zZ (tJ g g' base W (qB upd)) w' k b/\∀bb oo,s8 (tJ g g' base W (qB upd)) k b bb oo->s8 g' c b0 bb oo:=by
 obtain⟨hJ,hcur⟩:=aA4 hH hm hr hb hf hW;have hblk:=hr.heap.blk c _ (by rw[x8];exact hR);cases b0 with
 |dead=>
  simp only[w8,aSk,aSP,true_and] at hbk;subst hbk;exact⟨trivial,fun _ _ h=>h.elim⟩
 |grow e m n=>
  simp only[w8,aSk,aSP,true_and] at hbk;subst hbk;obtain⟨u,xs,hv,h1,h2,h3⟩:=hblk;exact⟨⟨u,xs,by rw[hcur];exact hv,h1,fun m hm'=>by rw[hcur];exact h2 m hm',h3⟩,fun bb oo ⟨v',hv',hb'⟩=>⟨v',by rw[hcur] at hv';exact hv',hb'⟩⟩
 |row e t l n=>
  simp only[w8] at hbk;split at hbk
  .rename_i hp;simp only[aSk,aSP,true_and] at hbk;subst hbk;obtain⟨h0,u,xs,hv,h1,h4,h2,h3⟩:=hblk;exact⟨⟨h0,u,xs,by rw[hcur];exact hv,h1,CC (fun _ _ h=>vU (g:=g') (g':=tJ g g' base W (qB upd)) rfl hp h) h4,fun m hm'=>by rw[hcur];exact h2 m hm',h3⟩,fun bb oo ⟨v',hv',hb'⟩=>⟨v',by rw[hcur] at hv';exact hv',hb'⟩⟩
  .cases hbk
 |iter s n=>simp [w8] at hbk
 |map s v l=>
  simp only[w8] at hbk;split at hbk
  .rename_i hp;rw[aSB] at hp;simp only[aSk,aSP,true_and] at hbk;subst hbk;obtain⟨p,es,cl,hp1,hp0,hh,hM,hS⟩:=hblk;exact⟨⟨p,es,cl,by rw[hJ];exact hp1,hp0,hh,Q2 (g:=g') (g':=tJ g g' base W (qB upd)) rfl hp.1 hp.2 hM,hS⟩,fun bb oo ⟨pp,hpp,e⟩=>⟨pp,by rw[hJ] at hpp;exact hpp,e⟩⟩
  .cases hbk
 |cells t y ts=>simp [w8] at hbk
theorem aKe {side:List Prop}{s:pX}{rds:pM}{vv:pO}(hs:rF (tJ g g' base W (qB upd)) w' s vv):rE g w H ⟨side,s,upd,rds⟩ (tJ g g' base W (qB upd)) w' vv:=by
 have le:=aA5 hH hm hr hb hf;have fr:=aKd hH hm hr hb hf;have gho: ∀i,i∉qB upd->(tJ g g' base W (qB upd)).J i=g.J i/\(tJ g g' base W (qB upd)).cur i=g.cur i:=fun i hi=>
  aA3 hH hm hr hb hf (fun h=>hi h.2) (VA fun c hc=>hi ((DJ hH hm hr hb hf hc).1))
 have perm: ∀i blk b o,i∈qB upd->pZ (qS upd H) i=some blk->s8 (tJ g g' base W (qB upd)) i blk b o->w.heap.size<=b\/sK g H (qB upd) b o:=by
  intro i blk b o hi hg ho;rcases VC hH hm hr hb hf hi hg with⟨c,i',u,x,toks,off,b0,h1,h2,h3,h4⟩ |⟨c,k,b0,h1,h2,h3,h4⟩ |⟨c,b0,h1,h2,h3,h4⟩
  .subst h2;obtain⟨_,k2,_⟩:=a0G hH hm hr hb hf h1 h3 h4;exact .inr ⟨i,_,hi,(k2 b o ho).2,(k2 b o ho).1⟩
  .subst h2;obtain⟨_,k2⟩:=a0I hH hm hr hb hf h1 h3 h4;exact(hr.perm c b0 b o h3 (k2 b o ho)).imp id fun h=>a0F hH hm hr hb hf h
  rw[aSS] at h2 h4;subst h2;obtain⟨_,k2⟩:=a0H hH hm hr hb hf h3 h1 h4;exact(hr.perm c b0 b o h1 (k2 b o ho)).imp id fun h=>a0F hH hm hr hb hf h
 refine⟨le,hs,hH.upd le fr perm gho (fun i blk hi hg=>?_) (fun i j bi bj b o hi hj hij hgi hgj hoi hoj=>?_) (fun b o h=>hr.heap.sl b o h),fr,perm,gho,fun i u' y us h=>?_⟩
 .rcases VC hH hm hr hb hf hi hg with⟨c,i',u,x,toks,off,b0,h1,h2,h3,h4⟩ |⟨c,k,b0,h1,h2,h3,h4⟩ |⟨c,b0,h1,h2,h3,h4⟩
  .subst h2;exact(a0G hH hm hr hb hf h1 h3 h4).1
  .subst h2;exact(a0I hH hm hr hb hf h1 h3 h4).1
  rw[aSS] at h2 h4;subst h2;exact(a0H hH hm hr hb hf h3 h1 h4).1
 .have cls: ∀{i:Nat}{blk:pW},i∈qB upd->pZ (qS upd H) i=some blk->s8 (tJ g g' base W (qB upd)) i blk b o->
    (∃c u x toks off b0,W[c]? =some (.box i u x toks off)/\r.H[c]? =some b0/\s8 g i (.cells u x toks) b o/\pZ H i=some (.cells u x toks)/\(s8 g' c b0 b o\/(b<w.heap.size/\¬yB (uX g W) (qQ 0 L) b o)))\/
    (∃c b0,zI base r.H.length c W[c]? =some i/\r.H[c]? =some b0/\s8 g' c b0 b o):=by
   intro i blk hi hg ho;rcases VC hH hm hr hb hf hi hg with⟨c,i',u,x,toks,off,b0,h1,h2,h3,h4⟩ |⟨c,k,b0,h1,h2,h3,h4⟩ |⟨c,b0,h1,h2,h3,h4⟩
   .subst h2;obtain⟨_,k2,k3⟩:=a0G hH hm hr hb hf h1 h3 h4;exact .inl ⟨c,u,x,toks,off,b0,h1,h3,(k2 b o ho).1,(k2 b o ho).2,k3 b o ho⟩
   .subst h2;obtain⟨_,k2⟩:=a0I hH hm hr hb hf h1 h3 h4;exact .inr ⟨c,b0,by rw[h1];rfl,h3,k2 b o ho⟩
   rw[aSS] at h2 h4;subst h2;obtain⟨_,k2⟩:=a0H hH hm hr hb hf h3 h1 h4;exact .inr ⟨c,b0,by rw[h3];simp only[zI];rw[aSj (aSz.1 h1).1],h1,k2 b o ho⟩
  have cross: ∀{c c':Nat}{b0 b1:pW},c≠c'->r.H[c]? =some b0->r.H[c']? =some b1->s8 g' c b0 b o->s8 g' c' b1 b o->False:=fun hne h1 h2 o1 o2=>
   hr.heap.dis _ _ _ _ b o hne (by rw[x8];exact h1) (by rw[x8];exact h2) o1 o2
  rcases cls hi hgi hoi with⟨c,u,x,toks,off,b0,h1,h2,h3,h4,h5⟩ |⟨c,b0,h1,h3,h4⟩<;>rcases cls hj hgj hoj with⟨c',u',x',toks',off',b0',k1,k2,k3,k4,k5⟩ |⟨c',b0',k1,k3,k4⟩
  .exact hH.dis i j _ _ b o hij h4 k4 h3 k3
  .rcases h5 with h5|⟨h5,h6⟩
   .exact cross (fun e=>by subst e;rw[h1] at k1;cases k1) h2 k3 h5 k4
   rcases hr.perm c' b0' b o k3 k4 with h|h
   .omega
   exact h6 h
  .rcases k5 with k5|⟨k5,k6⟩
   .exact cross (fun e=>by subst e;rw[k1] at h1;cases h1) h3 k2 h4 k5
   rcases hr.perm c b0 b o h3 h4 with h|h
   .omega
   exact k6 h
  exact cross (fun e=>by subst e;rw[h1] at k1;exact hij (aSo k1)) h3 k3 h4 k4
 by_cases hi:i∈qB upd
 .rcases VC hH hm hr hb hf hi h with⟨c,i',u,x,toks,off,b0,h1,h2,h3,h4⟩ |⟨c,k,b0,h1,h2,h3,h4⟩ |⟨c,b0,h1,h2,h3,h4⟩
  .subst h2;obtain⟨_,_,bL,hL,hok⟩:=DJ hH hm hr hb hf h1;cases b0 with
   |cells t y0 ts=>
    obtain⟨y2,z,_,hset,hq⟩:=a0D h4;simp only[aSP,pW.cells.injEq,true_and] at hq;obtain⟨rfl,_⟩:=hq;cases bL with
    |cells=>exact .inl ⟨x,toks,hok.1⟩
    |_=>exact hok.elim
   |grow=>simp [xN] at h4
   |row=>simp [xN] at h4
   |map=>simp [xN] at h4
   |iter=>simp [xN] at h4
   |dead=>simp [xN] at h4
  .cases b0 with
   |cells t y0 ts=>simp [w8] at h4
   |iter=>simp [w8] at h4
   |map=>simp only[w8] at h4;split at h4<;>simp at h4
   |row=>simp only[w8] at h4;split at h4<;>simp at h4
   |_=>simp [w8] at h4
  rw[aSS] at h2;exact .inr (hf i hi pC)
 exact .inl ⟨y,us,(A0 hi).symm.trans h⟩
end
section
variable {P:Program}{g:Gh}{w:pN}
def aKf (P:Program) (g:Gh) (w:pN) (d:Nat) (ty:Ty) (x y:ty.den):ZS->Prop
 | .ty t=> ∀vx vy,sW g w ty x vx->sW g w ty y vy->∃b,C0 ty x y=some b/\(Op.equalIn (d+1) t vx vy).run P w= .ok b w
 | .fs o l=> ∀px py cx cy,px.length=o->py.length=o->Rd g w ty x cx->Rd g w ty y cy->∃b,C0 ty x y=some b/\(Op.eqFields (d+1) (px++cx).toArray (py++cy).toArray l).run P w= .ok b w
 | .el e i m=> ∀px py cx cy,px.length=i*P.cellsOf e->py.length=i*P.cellsOf e->Rd g w ty x cx->Rd g w ty y cy->∃b,C0 ty x y=some b/\(Op.eqItems (d+1) e (P.cellsOf e) (px++cx).toArray (py++cy).toArray (List.range' i m)).run P w= .ok b w
theorem aKg {e:TypeId}{n:Nat}(h:(P.info? e).map (·.size)=some n):P.cellsOf e=n:=by
 obtain⟨i,h1,h2⟩:=aSA.1 h;simp [Program.cellsOf,h1,h2]
theorem yM.run {n:Nat}{ix:ZS}{ty:Ty}(h:yM P n ix ty): ∀(d:Nat),n<=d->∀x y:ty.den,aKf P g w d ty x y ix:=by
 induction h with
 |bool hu=>
  intro d _ x y vx vy hx hy;obtain rfl:=vE hx;obtain rfl:=vE hy;exact⟨_,rfl,run_equalIn_bool' w d _ _ _ hu⟩
 |int hu=>
  intro d _ x y vx vy hx hy;obtain rfl:=wF hx;obtain rfl:=wF hy;refine⟨_,rfl,(run_equalIn_int w d _ _ _ _ _ hu).trans ?_⟩;congr 1
 |str hu=>
  intro d _ x y vx vy hx hy;obtain rfl:=x6 hx;obtain rfl:=x6 hy;refine⟨_,rfl,(run_equalIn_string w d _ _ _ hu).trans ?_⟩;congr 1;rw[ByteArray.toList_eq,ByteArray.toList_eq];exact Q5 _ _
 | @struct h0 t0 fs0 ty0 hr hu hs _ ih=>
  intro d hd x y vx vy hx hy;obtain⟨cx,rfl,rx⟩:=KR hr hx;obtain⟨cy,rfl,ry⟩:=KR hr hy;obtain⟨d,rfl⟩: ∃d',d=d'+1:=⟨d-1,pC⟩;obtain⟨b,h1,h2⟩:=ih d pC x y [] [] cx cy rfl rfl rx ry;refine⟨b,h1,?_⟩;have hf:P.fieldsOf t0=fs0:=by unfold Program.fieldsOf;rw[hu]
  rw[run_equalIn_struct w _ _ _ _ (by rw[hf];exact hu) hs,hf];simpa using h2
 |arr hr hu hi _ ih=>
  intro d hd x y vx vy hx hy;obtain⟨cx,rfl,rx⟩:=KR hr hx;obtain⟨cy,rfl,ry⟩:=KR hr hy;obtain⟨d,rfl⟩: ∃d',d=d'+1:=⟨d-1,pC⟩;obtain⟨b,h1,h2⟩:=ih d pC x y [] [] cx cy pE pE rx ry;refine⟨b,h1,?_⟩;obtain⟨i,hi⟩:=aSn.1 hi;rw[run_equalIn_array w _ _ _ hu hi,List.range_eq_range'];simpa using h2
 |nil=>
  intro d _ x y px py cx cy _ _ _ _;exact⟨true,rfl,by simp [Op.eqFields]⟩
 |anil=>
  intro d _ x y px py cx cy _ _ _ _;exact⟨true,rfl,by simp [Op.eqItems]⟩
 | @cons h o f r a b hn ho hsz hrow _ _ iha ihb=>
  intro d hd x y px py cx cy hpx hpy ⟨x1,x2,ex,rx1,rx2⟩ ⟨y1,y2,ey,ry1,ry2⟩;subst ex;subst ey;obtain⟨vx,p1,v1⟩:=Q6 (P:=P) (c1:=px) (c3:=x2) hsz hrow rx1;obtain⟨vy,p2,v2⟩:=Q6 (P:=P) (c1:=py) (c3:=y2) hsz hrow ry1;obtain⟨b1,e1,r1⟩:=iha d hd x.1 y.1 vx vy v1 v2;obtain⟨b2,e2,r2⟩:=ihb d hd x.2 y.2 (px++x1) (py++y1) x2 y2 (by rw[aSp,hpx,sL rx1]) (by rw[aSp,hpy,sL ry1]) rx2 ry2;refine⟨b1&&b2,by simp only[C0,e1,e2,C0.eqAnd],?_⟩;rw[aSv] at p1 p2 r2;rw[aSv] at r2;rw[hpx,<-ho] at p1;rw[hpy,<-ho] at p2;simp only[Op.eqFields,aSj hn,aSw,p1,p2,aSr,r1];cases b1
  .simp
  .simpa using r2
 | @acons h e i m a b hsz hrow _ _ iha ihb=>
  intro d hd x y px py cx cy hpx hpy ⟨x1,x2,ex,rx1,rx2⟩ ⟨y1,y2,ey,ry1,ry2⟩;subst ex;subst ey;have hc:=aKg hsz;obtain⟨vx,p1,v1⟩:=Q6 (P:=P) (c1:=px) (c3:=x2) hsz hrow rx1;obtain⟨vy,p2,v2⟩:=Q6 (P:=P) (c1:=py) (c3:=y2) hsz hrow ry1;obtain⟨b1,e1,r1⟩:=iha d hd x.1 y.1 vx vy v1 v2;obtain⟨b2,e2,r2⟩:=ihb d hd x.2 y.2 (px++x1) (py++y1) x2 y2 (by rw[aSp,hpx,sL rx1,hc,aTD]) (by rw[aSp,hpy,sL ry1,hc,aTD]) rx2 ry2;refine⟨b1&&b2,by simp only[C0,e1,e2,C0.eqAnd],?_⟩;rw[aSv] at p1 p2 r2;rw[aSv] at r2;rw[hpx] at p1;rw[hpy] at p2;simp only[List.range'_succ,Op.eqItems,aSw,p1,p2,aSr,r1];cases b1
  .simp
  simpa using r2
def G9:pO->Bool
 | .nilFunc=>true
 |_=>false
theorem aKh {w:pN}(d:Nat) {t:TypeId}{a b:_}{c:_}(h:P.underlying t=some (.func a b c)) (v:pO) (hv:v= .nilFunc\/∃f y z,v= .func f y z):
  (Op.equalIn (d+1) t v .nilFunc).run P w= .ok (G9 v) w:=by
 rcases hv with rfl|⟨f,y,z,rfl⟩<;>simp [Op.equalIn,aSF h,G9]
theorem aBa {w:pN}{t:TypeId}{a b:_}{c:_}(h:P.underlying t=some (.func a b c)) (v:pO) (hv:v= .nilFunc\/∃f y z,v= .func f y z):
  (Go.binOp .eql t v .nilFunc).run P w= .ok (.bool (G9 v)) w/\(Go.binOp .neq t v .nilFunc).run P w= .ok (.bool (!(G9 v))) w:=by
 have h1:=aKh (P:=P) (w:=w) 9999 h v hv;have h2:(Op.equal t v .nilFunc).run P w= .ok (G9 v) w:=h1;rcases hv with rfl|⟨f,y,z,rfl⟩
 .exact⟨by simp only[Go.binOp,aSw,h2];rfl,by simp only[Go.binOp,aSw,h2];rfl⟩
 exact⟨by simp only[Go.binOp,aSw,h2];rfl,by simp only[Go.binOp,aSw,h2];rfl⟩
variable {o:Oper}{a:Act}{H:s5}{T:sI}(hT:wY P T) (hH:s9 g w H)
include hT hH
theorem aKi {op:BinOp}{xt yt:TypeId}{x y:Operand}(ho:o.op= .binOp op xt x y yt) {sx sy:pX}(hx:rF g w sx (a.eval x)) (hy:rF g w sy (a.eval y)) {e:qJ}
  (hr:AI (XY (rO T xt) op sx sy)=some e):rC P o a g w H e:=by
 obtain⟨q,hq,rfl⟩:=I5 hr;have go: ∀{u v:pO},a.eval x=u->a.eval y=v->(∃z,(do eqGuard op xt x y u v;Go.binOp op xt u v:Sem pO).run P w= .ok z w/\yK g w q.2 z)->rC P o a g w H ⟨q.1,(q.2,none),[],[]⟩:=by
  rintro u v rfl rfl ⟨z,hz,hd⟩;refine rC.pure hH (v:=z) ?_ hd;unfold execOp;rw[ho];simp only[aSw,aSI] at hz|-;rw[hz];rfl
 replace hx:=hx.1;replace hy:=hy.1;generalize hti:rO T xt=oti at hq;unfold XY at hq;split at hq
 .rename_i u el by' ar ls_ t l k k';have hd:=(sP hT hti).2;simp only[wX] at hd;obtain⟨ax,cx,ex,hle,hll⟩:=EW hx;have hnil:ax=none->l=[]:=fun h=>by
   rcases hll with h1|⟨b,o,h1,_⟩
   .exact h1
   rw[h] at h1;cases h1
  have ey:a.eval y= .slice none 0 0:=hy;refine go ex ey ?_;unfold SN at hq;split at hq
  .cases hq;have h1:(do eqGuard .eql xt x y (.slice ax (List.length l) cx) (.slice none 0 0);Go.binOp .eql xt (.slice ax (List.length l) cx) (.slice none 0 0):Sem pO).run P w= .ok (.bool ax.isNone) w:=by
    simp only[aSw];rw[show (eqGuard .eql xt x y (.slice ax (List.length l) cx) (.slice none 0 0)).run P w= .ok () w from by simp [eqGuard]];exact Lib.run_eql_slice_nil (P:=P) w xt _ ax (List.length l) cx 0 0 hd.1
   exact⟨_,h1,_,rfl,fun h=>hnil (by simpa using h),fun _=>trivial⟩
  .cases hq;have h1:(do eqGuard .neq xt x y (.slice ax (List.length l) cx) (.slice none 0 0);Go.binOp .neq xt (.slice ax (List.length l) cx) (.slice none 0 0):Sem pO).run P w= .ok (.bool (!ax.isNone)) w:=by
    simp only[aSw];rw[show (eqGuard .neq xt x y (.slice ax (List.length l) cx) (.slice none 0 0)).run P w= .ok () w from by simp [eqGuard]];exact run_neq_slice_nil_any (P:=P) w xt _ ax (List.length l) cx 0 0 hd.1
   exact⟨_,h1,_,rfl,fun _=>trivial,fun h=>hnil (by simpa using h)⟩
  cases hq
 .rename_i u el by' ar ls_ k t l k';have hd:=(sP hT hti).2;simp only[wX] at hd;obtain⟨ay,cy,ey,hle,hll⟩:=EW hy;have hnil:ay=none->l=[]:=fun h=>by
   rcases hll with h1|⟨b,o,h1,_⟩
   .exact h1
   rw[h] at h1;cases h1
  have ex:a.eval x= .slice none 0 0:=hx;refine go ex ey ?_;unfold SN at hq;split at hq
  .cases hq;have h1:(do eqGuard .eql xt x y (.slice none 0 0) (.slice ay (List.length l) cy);Go.binOp .eql xt (.slice none 0 0) (.slice ay (List.length l) cy):Sem pO).run P w= .ok (.bool ay.isNone) w:=by
    simp only[aSw];rw[show (eqGuard .eql xt x y (.slice none 0 0) (.slice ay (List.length l) cy)).run P w= .ok () w from by simp [eqGuard]];exact run_eql_nil_slice (P:=P) w xt _ ay (List.length l) cy 0 0 hd.1
   exact⟨_,h1,_,rfl,fun h=>hnil (by simpa using h),fun _=>trivial⟩
  .cases hq;have h1:(do eqGuard .neq xt x y (.slice none 0 0) (.slice ay (List.length l) cy);Go.binOp .neq xt (.slice none 0 0) (.slice ay (List.length l) cy):Sem pO).run P w= .ok (.bool (!ay.isNone)) w:=by
    simp only[aSw];rw[show (eqGuard .neq xt x y (.slice none 0 0) (.slice ay (List.length l) cy)).run P w= .ok () w from by simp [eqGuard]];exact run_neq_nil_slice (P:=P) w xt _ ay (List.length l) cy 0 0 hd.1
   exact⟨_,h1,_,rfl,fun _=>trivial,fun h=>hnil (by simpa using h)⟩
  cases hq
 .rename_i el by' ar ls_ x' k1 k2;have hd:=(sP hT hti).2;simp only[wX] at hd;obtain⟨fa,fb,fc,hd⟩:=hd.1;have ey:a.eval y= .nilFunc:=by
   have:=wZ rfl hy;simpa[Rd,I2] using this
  obtain⟨hf,hm⟩:(a.eval x= .nilFunc\/∃f y z,a.eval x= .func f y z)/\G9 (a.eval x)=decide (x'.1=0):=by
   obtain⟨c,i,⟨k3,n3⟩,⟨k4,n4⟩⟩:=x';rcases wZ rfl hx with⟨h0,e⟩ |⟨h0,b,α,e,_⟩
   .simp only[aS4,and_true] at e;rw[e];exact⟨.inl rfl,by simp [h0,G9]⟩
   simp only[aS4,and_true] at e;rw[e];exact⟨.inr ⟨_,_,_,rfl⟩,by simp [h0,G9]⟩
  have hr2:=aBa (P:=P) (w:=w) hd (a.eval x) hf;rw[hm] at hr2;refine go rfl ey ?_;have hgd: ∀op,(eqGuard op xt x y (a.eval x) .nilFunc).run P w= .ok () w:=fun op=>by
   rcases hf with e|⟨f,x1,x2,e⟩<;>rw[e]<;>cases op<;>simp [eqGuard]
  unfold MP at hq;split at hq
  .rename_i r e1;cases e1;cases hq;exact⟨_,by simp only[aSw,hgd,aSr];exact hr2.1,vF _ _ _⟩
  .rename_i r e1;cases e1;cases hq;exact⟨_,by simp only[aSw,hgd,aSr];exact hr2.2,vF _ _ _⟩
  cases hq
 .rename_i el by' ar ls_ x' k1 k2;have hd:=(sP hT hti).2;simp only[wX] at hd;obtain⟨fa,fb,fc,hd⟩:=hd;have ey:a.eval y= .nilFunc:=by
   have:=wZ rfl hy;simpa[Rd,I2] using this
  obtain⟨hf,hm⟩:(a.eval x= .nilFunc\/∃f y z,a.eval x= .func f y z)/\G9 (a.eval x)=yQ x':=by
   have e:=wZ rfl hx;cases x' with
   |none=>
    simp only[Rd,UL,aS4,and_true] at e;rw[e];exact⟨.inl rfl,rfl⟩
   |some f=>
    simp only[Rd,UL,aS4,and_true] at e;rw[e];exact⟨.inr ⟨_,_,_,rfl⟩,rfl⟩
  have hr2:=aBa (P:=P) (w:=w) hd (a.eval x) hf;rw[hm] at hr2;refine go rfl ey ?_;have hgd: ∀op,(eqGuard op xt x y (a.eval x) .nilFunc).run P w= .ok () w:=fun op=>by
   rcases hf with e|⟨f,x1,x2,e⟩<;>rw[e]<;>cases op<;>simp [eqGuard]
  unfold MP at hq;split at hq
  .rename_i r e1;cases e1;cases hq;exact⟨_,by simp only[aSw,hgd,aSr];exact hr2.1,vF _ _ _⟩
  .rename_i r e1;cases e1;cases hq;exact⟨_,by simp only[aSw,hgd,aSr];exact hr2.2,vF _ _ _⟩
  cases hq
 .rename_i u el b ar ls_ t x' k t' y' k' _ _;unfold a9c at hq;split at hq
  .rename_i htt;subst htt;split at hq
   .rename_i hc;obtain⟨rfl,hc⟩:=hc;simp only[tZ] at hq;obtain⟨r,hr1,hr2⟩: ∃r,C0 t' x' y'=some r/\((op= .eql/\q=([],.val .bool r))\/(op= .neq/\q=([],.val .bool (!r)))):=by
     generalize hgen:C0 t' x' y'=od at hq;unfold MP at hq;split at hq
     .rename_i r;cases hq;exact⟨r,rfl,.inl ⟨rfl,rfl⟩⟩
     .rename_i r;cases hq;exact⟨r,rfl,.inr ⟨rfl,rfl⟩⟩
     cases hq
    have hti':=sP hT hti;rcases hc with rfl|⟨hrow,rfl⟩
    .have hd:=hti'.2;simp only[wX] at hd;obtain hbx:=vE hx;obtain hby:=vE hy;refine go hbx hby ?_;have hrr:r=(x'==y'):=(aSo hr1).symm;subst hrr;have hrun:=run_equalIn_bool' (P:=P) w 9999 xt x' y' hd;rcases hr2 with⟨rfl,rfl⟩ |⟨rfl,rfl⟩
     .refine⟨.bool (x'==y'),?_,vF _ _ _⟩;simp only[aSw];rw[show (eqGuard .eql xt x y (.bool x') (.bool y')).run P w= .ok () w from by simp [eqGuard]];simp only[aSr,Go.binOp,Op.equal,Op.maxDepth,aSw,hrun,aSI]
     refine⟨.bool (!(x'==y')),?_,vF _ _ _⟩;simp only[aSw];rw[show (eqGuard .neq xt x y (.bool x') (.bool y')).run P w= .ok () w from by simp [eqGuard]];simp only[aSr,Go.binOp,Op.equal,Op.maxDepth,aSw,hrun,aSI]
    have h2:=hti'.2;have heq:P.eqGuardType P.depth xt=false/\∃h,h<9000/\yM P h (.ty xt) t':=by
     unfold wX at h2;cases t'<;>simp only[Ty.isRow,aTy] at hrow
     all_goals exact h2.2 rfl
    obtain⟨hg1,hh,hlt,hE⟩:=heq;obtain⟨cx,ex,rx⟩:=KR hrow hx;obtain⟨cy,ey,ry⟩:=KR hrow hy;obtain⟨b',hb1,hb2⟩:=hE.run (g:=g) (w:=w) 9999 pC x' y' _ _ hx hy;rw[hr1] at hb1;obtain rfl:=aSo hb1;rw[ex,ey] at hb2;refine go ex ey ?_;rcases hr2 with⟨rfl,rfl⟩ |⟨rfl,rfl⟩
    .refine⟨.bool r,?_,vF _ _ _⟩;simp only[aSw];rw[run_eqGuard_agg w _ _ _ _ _ _ hg1];simp only[aSr];rw[run_eql_struct,hb2];rfl
    refine⟨.bool (!r),?_,vF _ _ _⟩;simp only[aSw];rw[run_eqGuard_agg w _ _ _ _ _ _ hg1];simp only[aSr];rw[run_neq_struct,hb2];rfl
   cases hq
  cases hq
 cases hq
end
end Go.Proofs.YtcpbaddnmpeipaaGreatDoor.Vc
namespace Go.Proofs.YtcpbaddnmpeipaaGreatDoor.Vc
open Go.RowKit
theorem aKj (s:p8):Lib.strCells ⟨s.toArray⟩=s.map fun b=>Value.int .u8 b.toNat:=by
 simp [Lib.strCells]
theorem aKk {P:Program}(w:pN) (t u ty e:TypeId) (i:TypeInfo) (ht:P.underlying t=some (.slice e)) (hu:P.underlying u=some .string) (hi:P.info? e=some i) (hz:i.zero=some (.int .u8 0))
  (hsize:i.size=1) (hby:i.bytes=1) (v:pO) (n:Nat) (xs:pJ) (hown:w.ownsRow 0 e 1 v n xs) (s:ByteArray) (hm:0<s.size)
  (h63:n+s.size<=maxLen) (hbytes:n+s.size<=140737488355328):
  ∃q cap w',(Builtin.append_ #[t,u] ty #[v,.string s]).run P w= .ok (.slice (some ⟨q,0,none⟩) (n+s.size) cap) w'/\w'.ownsRow 0 e 1 (.slice (some ⟨q,0,none⟩) (n+s.size) cap) (n+s.size) (xs++Lib.strCells s)/\
   (q=w.heap.size\/v.ownBlock=some q)/\w.grownBy w' v.ownBlock/\n+s.size<=cap/\
   ∀b o,b<w.heap.size->(v.ownBlock=some b->o<n*1)->w'.cell? ⟨b,o,none⟩=w.cell? ⟨b,o,none⟩:=by
 have hsmall:n+s.size<=9223372036854775807:=by simp only[maxLen] at h63;omega
 have hxl:xs.length=n:=by simpa using hown.1
 have hlen:(xs++Lib.strCells s).length=(n+s.size)*1:=by rw[aSp,hxl,Lib.strCells_length,aUc]
 have grown: ∀(old:Nat),old<n+s.size->∀(row:pL),
   (w.drew.alloc (.cells (xs.toArray++(Lib.strCells s).toArray++Builtin.zeroCells (Value.int .u8 0).cells (grownCap w (n+s.size) old e- (n+s.size))) e)).ownsRow 0 e 1
    (.slice (some ⟨w.heap.size,0,none⟩) (n+s.size) (grownCap w (n+s.size) old e)) (n+s.size) (xs++Lib.strCells s)/\
   w.grownBy (w.drew.alloc (.cells (xs.toArray++(Lib.strCells s).toArray++Builtin.zeroCells (Value.int .u8 0).cells (grownCap w (n+s.size) old e- (n+s.size))) e)) row/\n+s.size<=grownCap w (n+s.size) old e/\
   ∀b o,b<w.heap.size->(w.drew.alloc (.cells (xs.toArray++(Lib.strCells s).toArray++Builtin.zeroCells (Value.int .u8 0).cells (grownCap w (n+s.size) old e- (n+s.size))) e)).cell? ⟨b,o,none⟩=w.cell? ⟨b,o,none⟩:=by
  intro old ho row;have hge:=grownCap_ge w (n+s.size) old e;have hcm:grownCap w (n+s.size) old e<=maxLen:=grownCap_le_maxLen w (n+s.size) old e h63;refine⟨⟨hlen,.inr ⟨w.heap.size,_,_,rfl,aTg _,aUo w.drew _,hge,hcm,?_,?_⟩⟩,⟨rfl,rfl,rfl,by simp,fun k hk _=>aSU w.drew _ k hk⟩,hge,fun b o hb=>aSH (w:=w) (a:=⟨b,o,none⟩) (aSU w.drew _ b hb)⟩
  .have hz1:(Value.int IntKind.u8 0).cells.size=1:=rfl;simp only[aUp,aTo,size_zeroCells,hz1,hxl,Lib.strCells_length];omega
  simp only[Array.toList_append,aSv];rw[<-aSv,<-hlen];exact aT4
 rcases hown.2 with⟨rfl,rfl⟩ |⟨g,cap,cur,rfl,hbg,hg,hnc,hcm,hcs,htake⟩
 .have hx:xs=[]:=aSQ hxl;subst hx;have hr:=run_append_nil_string (P:=P) w t u ty e i (.int .u8 0) ht hu hi hz s pC pC (by rw[hby];omega);have hgr:=grown 0 pC (Value.ownBlock (.slice none 0 0));simp only[aSS,List.nil_append,Array.empty_append] at hgr|-;have e1:(s.data.map fun b=>Value.int .u8 b.toNat)=(Lib.strCells s).toArray:=by
   apply Array.ext';simp [Lib.strCells]
  rw[e1] at hr;exact⟨_,_,_,hr,hgr.1,.inl rfl,hgr.2.1,hgr.2.2.1,fun b o hb _=>hgr.2.2.2 b o hb⟩
 by_cases hroom:n+s.size<=cap
 .have hcs':cur.size=cap:=by simpa using hcs
  have hr:=Lib.run_append_room_string (P:=P) w t u ty e i ht hu hi hsize g n cap cur hg s hroom pC;refine⟨_,_,_,hr,⟨hlen,.inr ⟨g,cap,_,rfl,hbg,aUq w g cur _ e _ hg,hroom,hcm,?_,?_⟩⟩,.inr rfl,⟨rfl,rfl,rfl,by simp,fun k _ hk=>aT7 w g k _ (fun e=>hk (by simp [Value.ownBlock,e]))⟩,hroom,fun b o hb hso=>?_⟩
  .simp only[aTo,aSp,aSX,aSR,aTd,Lib.strCells_length];omega
  .have ht':cur.toList.take n=xs:=by simpa using htake
   rw[ht',<-hlen];exact aT4
  by_cases hbg':b=g
  .subst hbg';have ho:=hso rfl;rw[cell_setRow_same w b o cur _ e _ hg,cell_of_row w b o cur e (0,0) hg];have hlt:o<(cur.toList.take n).length:=by rw[aSX,aTd];omega
   have hlt2:o<cur.size:=by rw[aSX,aTd] at hlt;omega
   simp only[List.getElem?_toArray,aSv];rw[aSD hlt,List.getElem?_take,aSj pC];simp
  exact aSH (a:=⟨b,o,none⟩) (aT7 w g b _ hbg')
 have holds: ∀j u,xs[j]? =some u->w.cell? ((⟨g,0,none⟩:Addr).add j)=some u:=hown.cells (g:=g) rfl;have hr:=Lib.run_append_grow_string (P:=P) w t u ty e i (.int .u8 0) ht hu hi hz ⟨g,0,none⟩ n cap xs (by rw[hsize];simpa using hxl) holds s pC pC (by rw[hby];exact growslice_fits pC pC);have hgr:=grown cap pC (Value.ownBlock (.slice (some ⟨g,0,none⟩) n cap));exact⟨_,_,_,hr,hgr.1,.inl rfl,hgr.2.1,hgr.2.2.1,fun b o hb _=>hgr.2.2.2 b o hb⟩
theorem aKl {P:Program}(w:pN) (t u ty e:TypeId) (i:TypeInfo) (ht:P.underlying t=some (.slice e)) (hu:P.underlying u=some .string) (hi:P.info? e=some i) (hsize:i.size=1) (ad:Option Addr) (n c:Nat) (hle:n<=c):
  (Builtin.append_ #[t,u] ty #[.slice ad n c,.string ⟨#[]⟩]).run P w= .ok (.slice ad n c) w:=by
 have hf:=Lib.run_firstCells_string (P:=P) w 1 ⟨#[]⟩;have hm:(⟨#[]⟩:ByteArray).size=0:=rfl;rw[hm] at hf;cases ad<;>simp [Builtin.append_,aSF ht,aSF hu,sizeOf,typeInfo,hi,hsize,Builtin.lenOf,hm,hf,hle,Lib.strCells,storeCells]
theorem aBb (g:Gh) (w:pN): ∀s:p8,tV (Rd g w (.int .u8)) 1 (uN s) (s.map fun b=>Value.int .u8 b.toNat)
 |[]=>rfl
 |b::s=>⟨[.int .u8 b.toNat],_,rfl,rfl,rfl,aBb g w s⟩
section
variable {P:Program}{o:Oper}{a:Act}{g:Gh}{w:pN}{H:s5}{T:sI}(hT:wY P T) (hH:s9 g w H)
include hT hH
theorem aKm {t t':TypeId}{x:Operand}(ho:o.op= .convert t t' x) {sx:pX}(hx:rF g w sx (a.eval x)) {e:qJ}
  (hr:AI (Y1 T (rO T t) (rO T t') sx)=some e):rC P o a g w H e:=by
 obtain⟨q,hq,rfl⟩:=I5 hr;replace hx:=hx.1;generalize h1:rO T t=o1 at hq;generalize h2:rO T t'=o2 at hq;unfold Y1 at hq;split at hq
 .rename_i e b1 a1 l1 e2 b2 a2 l2 l k;generalize h3:rO T e=o3 at hq;unfold a9d at hq;split at hq
  .cases hq;have d1:=(sP hT h1).2;have d2:=(sP hT h2).2;have d3:=(sP hT h3).2;simp only[wX] at d1 d2 d3;obtain⟨ad,cap,hv,hle,hl⟩:=EW hx;refine rC.pure hH (v:= .string ⟨(tQ l).toArray⟩) ?_ (KS _ _ _);simp only[execOp,ho,hv,aSw];have run:(convert t t' (.slice ad (List.length l) cap)).run P w= .ok (.string ⟨(tQ l).toArray⟩) w:=by
    rcases hl with rfl|⟨b,off,rfl,hL⟩
    .rw[run_convert_bytes_string w t t' e ad _ cap d1.1 d3 d2];cases ad with
     |none=>simp [Conv.bytesToString,tQ];rfl
     |some ad=>simp [Conv.bytesToString,loadCells,loadCellsFrom,tQ];rfl
    have:=run_convert_bytes_arg (P:=P) w t e d1.1 d3 b off (List.length l) cap l rfl (fun i hi=>by
     obtain⟨cs,_,c2,_,c4⟩:=UQ hL (aSu hi);have c5:cs=[.int .u8 (l[i]:Int)]:=c4;subst c5;have:=c2 0 _ rfl;have hcell:Ty.cells (.int .u8)=1:=rfl;rw[hcell,aUc,aTu] at this;rw[this,aSM,aSu hi];rfl) t' d2
    exact this
   rw[run];rfl
  cases hq
 cases hq
theorem aKn {args:Array Operand}{tys:Array TypeId}(ho:o.op= .call ⟨.builtin .append,args,tys⟩) {ρ:Operand->pX}(hρ: ∀x∈args.toList,rF g w (ρ x) (a.eval x)) {e:qJ}
  (hr:U4 T H (vK ρ args.toList) tys.toList=some e) (hs: ∀p∈e.side,p):rC P o a g w H e:=by
 unfold U4 at hr;split at hr
 .rename_i t u htu;have htys:tys= #[t,u]:=by apply aTn.1;rw[htu]
  split at hr
  .rename_i e1;subst e1;exact aJG hT hH ho hρ htys hr hs
  clear htu;subst htys;generalize hst:rO T t=ot at hr;generalize hsu:rO T u=ou at hr;generalize hss:vK ρ args.toList=ss at hr;unfold Z6 at hr;split at hr
  .rename_i el ar ls_ e2 b2 a2 ls2 l k s k2;generalize hk:pZ H k=ob at hr;unfold U3 at hr;split at hr
   .rename_i e' c n;split at hr
    .rename_i hec;obtain⟨rfl,rfl⟩:=hec;cases hr;rw[aSp];have hsl:List.length (uN s)=List.length s:=by simp [uN]
     rw[hsl];have hln:=hs _ (by simp:(List.length l=n)∈_);have hby:=hs _ (by simp:(List.length l+List.length s<=140737488355328)∈_);obtain⟨v,vr,hv,hs1,hs2⟩:=UT hT hH hρ hss;obtain⟨h2,h3,_⟩:=(sP hT hst).2;have hu:=(sP hT hsu).2;simp only[wX] at hu;obtain⟨ei,hei,hz⟩:=aSA.1 h3;simp only[aSP] at hz;obtain⟨cs,hx⟩:=G5 (a:=a) hT hH ho;obtain⟨v0,xs,hv0,hown,hnone,hseal⟩:=hH.blk k _ hk;have hcur:g.cur k (List.length l)=some v:=hs1.2;rw[hln,hv0] at hcur;obtain rfl:=aSo hcur;obtain⟨adl,capl,hvl,hlel,hll⟩:=EW hs1.1;have hvr:=x6 hs2.1;have hsz:(⟨List.toArray s⟩:ByteArray).size=List.length s:=by simp [ByteArray.size]
     by_cases hm:List.length s=0
     .obtain rfl:s=[]:=aSQ hm;have hget: ∀i,pZ (qS [(k,pW.grow e' 1 (List.length l+List.length ([]:p8)))] H) i=pZ H i:=by
       intro i;simp only[qS,pZ];by_cases hi:k=i
       .subst hi;rw[aSj rfl,hk,hln];rfl
       rw[aSl hi]
      have hkeep:rE g w H ⟨[List.length l=n,List.length l+List.length ([]:p8)<=140737488355328],(.val (.list (.int .u8)) (l++uN []),some k),[(k,.grow e' 1 (List.length l+List.length ([]:p8)))],[k]⟩ g w v0:=by
       refine⟨.refl _ _,?_,⟨fun i b h=>hH.blk i b ((hget i).symm.trans h),fun i j bi bj b o' hij h1 h2=>hH.dis i j bi bj b o' hij ((hget i).symm.trans h1) ((hget j).symm.trans h2),hH.sl,hH.tab.1,fun i blk b o' h ho'=>hH.tab.2 i blk b o' ((hget i).symm.trans h) ho'⟩,.refl _ _ _,fun i blk b o' hi hg ho'=> .inr ⟨i,blk,hi,(hget i).symm.trans hg,ho'⟩,fun _ _=>⟨rfl,rfl⟩,fun i u' y us h=> .inl ⟨y,us,(hget i).symm.trans h⟩⟩;rw[show l++uN []=l from by simp [uN]];exact hs1
      refine rC.value (v:=v0) (w':=w) ?_ hkeep;rw[hx,hv,hvr,hvl];have:=aKl (P:=P) w t u o.type e' ei h2 hu hei (by rw[hz.1];rfl) adl (List.length l) capl hlel;simp only[builtin,aSw];rw[this];simp only[aSr,aSI]
     have hxs:tV (Rd g w (.int .u8)) 1 l xs:=by
      by_cases h0:List.length l=0
      .obtain rfl:l=[]:=aSQ h0;have:xs=[]:=aSQ (by rw[hown.1,<-hln];simp);exact this
      rcases hll with rfl|⟨b0,off0,rfl,hL0⟩
      .exact absurd rfl h0
      obtain⟨ls,hF0,hra0,_⟩:=Q7 hL0;rcases hown.2 with⟨e1,e2⟩ |⟨q,cap,cur,e1,e2⟩
      .exact absurd (hln.trans e2) h0
      rw[hvl] at e1;simp only[aTX,aSk,Addr.mk.injEq] at e1;obtain⟨⟨rfl,rfl,_⟩,_,rfl⟩:=e1;have hvn:v0= .slice (some ⟨b0,0,none⟩) n capl:=by rw[hvl,hln]
      have hrx:=a0g (hvn▸hown);have:ls=xs:=by
       have hl1:=KM hF0;have hl2:=hown.1;have hc1:Ty.cells (.int .u8)=1:=rfl;rw[hc1] at hl1;apply List.ext_getElem?;intro j;by_cases hj:j<ls.length
       .have h1:=hra0 j ls[j] (aSu hj);have hj':j<xs.length:=by rw[hl2,<-hln,<-hl1];exact hj
        have h2:=hrx j xs[j] (aSu hj');rw[h1] at h2;rw[aSu hj,aSu hj',aSo h2]
       rw[aTF pC,aTF (by rw[hl2,<-hln,<-hl1];omega)]
      rw[<-this];exact hF0
     obtain⟨q,cap,w',hrun,hown',hq,hg,hcap,hcell⟩:=aKk (P:=P) w t u o.type e' ei h2 hu hei hz.2.2 hz.1 hz.2.1 v0 n xs hown ⟨List.toArray s⟩ (by rw[hsz];omega) (by rw[hsz];unfold maxLen;omega) (by rw[hsz];omega);rw[hsz] at hrun hown' hcap;rw[aKj] at hown';refine rC.value (v:= .slice (some ⟨q,0,none⟩) (n+List.length s) cap) (w':=w') ?_ (by
      have:=rE.append (side:=[List.length l=n,List.length l+List.length s<=140737488355328]) (rds:=[k]) (u:= .int .u8) (r:=uN s) hH hk (show (1:Nat)=Ty.cells (.int .u8) from rfl) hln hv0 hown hnone hseal hxs (aBb g w s) (by rw[hsl];omega) (by rw[hsl];exact hown') hq hg (by rw[hsl];exact hcap) hcell;rw[hsl] at this;rw[hln];rw[hln] at this;exact this)
     rw[hx,hv,hvr];simp only[builtin,aSw,hrun,aSr,aSI]
    cases hr
   cases hr
  cases hr
 cases hr
end
theorem aKo {g g':Gh}{w:pN}{f:pX→pX}(hf: ∀s u,rF g w s u→rF g' w (f s) u): ∀{l:List pX}{v:pO}{s:pX},QA g w l v→MU (l.map f)=some s→rF g' w s v:=by
  have un: ∀{l:List pX}{vs:pJ}{q},vG g w l vs→FT (l.map f)=some q→I3 g' w q vs:=by
    intro l
    induction l with
    | nil=>
      intro vs q h hq;simp only[List.map_nil,FT,aSk] at hq;subst hq;exact h
    | cons s l ih=>
      rintro vs q ⟨v,vs',rfl,h1,h2⟩ hq;have h1':=hf s v h1;simp only[aTC] at hq;generalize f s=fs at hq h1';obtain⟨d,k⟩:=fs;cases d with
      | val t x=>
        simp only[FT] at hq;obtain⟨q',hq',rfl⟩:=aSA.1 hq;refine⟨v,vs',rfl,h1'.1,?_,ih h2 hq'⟩;cases k with
        |none=>trivial
        |some k=>exact h1'.2
      | own k' n=>
        simp only[FT] at hq;obtain⟨q',hq',rfl⟩:=aSA.1 hq;exact⟨v,vs',rfl,.inr ⟨rfl,v,h1'.1.1,rfl,h1'.1.2⟩,trivial,ih h2 hq'⟩
      |_=>simp [FT] at hq
  intro l v s h hs
  match l,h,hs with
  | [],⟨vs,e,h⟩,hs=>
    simp only[List.map_nil,MU,aSk] at hs;subst hs;rw[show vs=[] from h] at e;exact⟨⟨[],e,rfl⟩,trivial⟩
  | [x],h,hs=>
    simp only[aTC,List.map_nil,MU,aSk] at hs;subst hs;exact hf x v h
  | x::y::l,⟨vs,e,h⟩,hs=>
    simp only[aTC,MU,aSk] at hs;subst hs;cases hq:FT (f x::f y::l.map f) with
    |none=>exact⟨trivial,trivial⟩
    |some q=>exact⟨⟨vs,e,un (l:=x::y::l) h (by simpa using hq)⟩,trivial⟩
theorem aBc {base n:Nat}{W:List rK}: ∀l:List pX,PD base n W l=l.map (SW base n W)
  |[]=>rfl
  |s::l=>by simp [PD,aBc l]
theorem aBd {P:Program}{f:FuncId}{sg:r7}(hcon:yN P f sg.C) {g:Gh}{w:pN}{H:s5}(hH:s9 g w H) {args:List pX}{vals:pJ}(hargs:vG g w args vals) {base:Nat}{e:qJ}
    (hr:FU H base args (some sg)=some e) (hs: ∀p∈e.side,p) (hfr:xR g base e):Calls P f vals.toArray w (fun en w'=> ∃v g',en= .returned v∧rE g w H e g' w' v):=by
  simp only[FU] at hr;cases hp0:xM H sg.ps args (some ⟨[],[],[],0⟩) with
  |none=>rw[hp0] at hr;cases hgs:sg.gs<;>(rw[hgs] at hr;simp [PE,BD] at hr)
  |some q0=>
   rw[hp0] at hr;cases hp:BD H sg.gs (some q0) with
   |none=>rw[hp] at hr;simp [PE] at hr
   |some q=>
    rw[hp] at hr;simp only[PE,aA1,List.append_nil] at hr;have hpo0:=aAW hH (BO.nil g w H) hargs hp0;rw[List.nil_append] at hpo0;have hpo:=aAY hH hpo0 hp;cases hcl:HR q.ws.reverse q.H.reverse with
    |none=>rw[hcl] at hr;simp [SZ] at hr
    |some L=>
    rw[hcl] at hr;simp only[SZ] at hr;have hm:=hpo.m.ren hcl;cases hc:sg.C q.args.reverse L with
    |none=>rw[hc] at hr;simp [SY] at hr
    | some r=>
      rw[hc] at hr;simp only[SY,aA0] at hr;cases hbh:BF base r.H.length q.ws.reverse 0 q.ws.reverse r.H with
      |none=>rw[hbh] at hr;simp [PC] at hr
      | some upd=>
        rw[hbh] at hr;cases hrs:MU (PD base r.H.length q.ws.reverse r.ret) with
        |none=>rw[hrs] at hr;simp [PC] at hr
        | some s=>
          rw[hrs] at hr;simp only[PC,aSk] at hr;subst hr;refine(hcon.2 (uX g q.ws.reverse) w q.args.reverse _ L r (aJY hH hm) hpo.args hc hs).mono ?_;rintro en w' ⟨v,g',rfl,hret⟩;refine⟨v,_,rfl,aKe hH hm hret hbh hfr ?_⟩;rw[aBc] at hrs;exact aKo (fun s u h=>aKc hH hm hret hbh hfr h) hret.ret hrs
theorem KY {g g':Gh}{w w':pN}: ∀{t:Ty}{x:t.den}{cs:pJ},FV t=true→Rd g w t x cs→Rd g' w' t x cs
  | .bool,_,_,_,r=>r
  | .int _,_,_,_,r=>r
  | .str,_,_,_,r=>r
  | .unit,_,_,_,r=>r
  | .fn,_,_,_,r=>r
  | .pair a b,_,_,h,⟨c1,c2,e,r1,r2⟩=>by
    simp only[FV,aSB] at h;exact⟨c1,c2,e,KY h.1 r1,KY h.2 r2⟩
  | .list _,_,_,h,_=>by cases h
  | .ref,_,_,h,_=>by cases h
  | .clo,_,_,h,_=>by cases h
  | .mp,_,_,h,_=>by cases h
  | .rl _ _,_,_,h,_=>by cases h
  | .mref,_,_,h,_=>by cases h
  | .ap,_,_,h,_=>by cases h
theorem aBe {g g':Gh}{w:pN}{k n:Nat}{t:Ty}{l:List t.den}(le:Le g w g' w) (hk: ∀u,g.cur k n=some u→((u= .slice none 0 0∧n=0)∨∃b cap,u= .slice (some ⟨b,0,none⟩) n cap∧n≤cap)→sW g' w (.list t) l u):
    ∀{args:List pX}{vals:pJ},vG g w args vals→(∀p∈K2 k n args,p)→vG g' w (PG k t l args) vals
  |[],_,h,_=>h
  | s::ss,_,⟨v,vs,rfl,h1,h2⟩,hp=>by
    refine⟨v,vs,rfl,?_,aBe le hk h2 (fun p hp'=>hp p ?_)⟩
    · obtain⟨d,x⟩:=s
      cases d with
      | own j m=>
        simp only[a9o];split
        · rename_i e
          subst e;have hm:m=n:=hp (j=j→m=n) (by simp only[K2];exact aSJ) rfl;subst hm;exact⟨hk _ h1.1.1 h1.1.2,trivial⟩
        .exact CX le h1
      |_=>exact CX le h1
    obtain⟨d,x⟩:=s
    cases d with
    |own j m=>simp only[K2];exact aSy _ hp'
    |_=>exact hp'
theorem aBf {g g':Gh}{w w':pN}: ∀{l:List ((Σ t:Ty,t.den)×pL)}{vs:pJ},T0 l=true→I3 g w l vs→I3 g' w' (Y5 l) vs
  |[],_,_,h=>h
  | (⟨t,x⟩,k)::l,vs,hn,⟨v,vs',e,h1,h2,h3⟩=>by
    simp only[T0,aSB] at hn;exact⟨v,vs',e,h1.imp (fun⟨a,cs,e,q⟩=>⟨a,cs,e,KY hn.1 q⟩) (fun⟨a,q⟩=>⟨a,KY hn.1 q⟩),trivial,aBf hn.2 h3⟩
theorem aKp {g g':Gh}{w w':pN}{s s':pX}{v:pO}(h:T5 s=some s') (hr:rF g w s v):rF g' w' s' v:=by
  unfold T5 at h;split at h
  · split at h
    · rename_i hn
      cases h;exact⟨hr.1.imp (fun⟨a,cs,e,q⟩=>⟨a,cs,e,KY hn q⟩) (fun⟨a,q⟩=>⟨a,KY hn q⟩),trivial⟩
    cases h
  · split at h
    · rename_i hn
      cases h;obtain⟨vs,e,q⟩:=hr.1;exact⟨⟨vs,e,aBf hn q⟩,trivial⟩
    cases h
  cases h
theorem aKq {P:Program}{f:FuncId}{sg:r7}(hcon:yN P f sg.C) {g:Gh}{w:pN}{H:s5}(hH:s9 g w H) {args:List pX}{vals:pJ}(hargs:vG g w args vals) {base:Nat}{e:qJ}{k:Nat}
    (hr:PH H base args sg k (pZ H k)=some e) (hs: ∀p∈e.side,p) (hfr:xR g base e):Calls P f vals.toArray w (fun en w'=> ∃v g',en= .returned v∧rE g w H e g' w' v):=by
  cases hk:pZ H k with
  |none=>rw[hk] at hr;cases hr
  | some b=>
    rw[hk] at hr;cases b with
    | row e0 t l m=>
      simp only[PH] at hr;cases hi:FU ((k,.dead)::H) base (PG k t l args) (some sg) with
      |none=>rw[hi] at hr;cases hr
      | some e1=>
        rw[hi] at hr;obtain⟨side,s0,U,rds⟩:=e1;simp only[Y7] at hr;cases hsl:T5 s0 with
        |none=>rw[hsl] at hr;cases hr
        | some s1=>
          rw[hsl] at hr;simp only[Y6] at hr;split at hr
          · rename_i hnl
            simp only[aSB,aSV] at hnl;obtain⟨hU,hkU⟩:=hnl;have hkU':k∉qB U:=fun h=>by rw[G7.2 h] at hkU;cases hkU
            cases hr;obtain⟨hl,v,xs,hv,hown,hF,hnone,hseal⟩:=hH.blk k _ hk
            let g':Gh:={g with S:=fun b o=>g.S b o∨(v.ownBlock=some b∧o<m*t.cells)}
            have le:Le g w g' w:=⟨fun _ _ h=> .inl h,fun _ _ _=>rfl,fun _ _ h=>h,fun _ _ _ h=>h⟩;have hown2: ∀b,v.ownBlock=some b→∀o,s8 g k (.row e0 t l m) b o:=fun b hb o=>⟨v,hv,hb⟩
            have hlist: ∀u,g.cur k m=some u→((u= .slice none 0 0∧m=0)∨∃b cap,u= .slice (some ⟨b,0,none⟩) m cap∧m≤cap)→sW g' w (.list t) l u:=by
              intro u hu hshape;rw[hv] at hu;obtain rfl:=aSo hu;rcases hshape with⟨rfl,h0⟩ |⟨b,cap,rfl,hcap⟩
              · have:l=[]:=aSQ (by rw[hl,h0])
                subst this;exact .inr ⟨rfl,none,0,rfl,aSE _,.inl rfl⟩
              refine .inr ⟨rfl,some ⟨b,0,none⟩,cap,by rw[hl],by rw[hl];exact hcap,.inr ⟨b,0,rfl,I6 (CC (fun _ _ h=>wA le h) hF) (fun j u hu=>?_) (fun j hj=>?_)⟩⟩
              · have:=hown.cells (g:=b) rfl j u hu
                rwa [aTp] at this
              right
              exact⟨rfl,by rw[hl] at hj;omega⟩
            have hget: ∀i b,pZ ((k,pW.dead)::H) i=some b→(i=k∧b= .dead)∨(i≠k∧pZ H i=some b):=by
              intro i b hb;simp only[pZ] at hb;split at hb
              .rename_i e1;exact .inl ⟨e1.symm,(aSo hb).symm⟩
              rename_i e1;exact .inr ⟨Ne.symm e1,hb⟩
            have hH':s9 g' w ((k,pW.dead)::H):=by
              refine⟨fun i b hb=>?_,fun i j bi bj b o hij h1 h2 o1 o2=>?_,fun b o hS=>?_,hH.tab.1,fun i b bb oo hb ho=>?_⟩
              · rcases hget i b hb with⟨rfl,rfl⟩ |⟨hne,h1⟩
                .trivial
                exact I4 (hH.blk i b h1) le rfl rfl (fun _ _ _=>⟨rfl,rfl⟩) (fun _ _=>rfl) (fun bb o ho hS=>by
                   rcases hS with hS|hS
                   .exact hS
                   exact absurd (hown2 bb hS.1 o) (fun h5=>hH.dis i k b _ bb o hne h1 hk ho h5)) (fun _ _ _ _ h=>h)
              · rcases hget i bi h1 with⟨_,rfl⟩ |⟨_,h1⟩
                .exact o1.elim
                rcases hget j bj h2 with⟨_,rfl⟩ |⟨_,h2⟩
                .exact o2.elim
                exact hH.dis i j bi bj b o hij h1 h2 ((wW (g':=g') (g:=g) rfl rfl).1 o1) ((wW (g':=g') (g:=g) rfl rfl).1 o2)
              · rcases hS with hS|hS
                .exact hH.sl b o hS
                exact KN hown hS.1
              rcases hget i b hb with⟨_,rfl⟩ |⟨_,h1⟩
              .exact ho.elim
              exact hH.tab.2 i b bb oo h1 ((wW (g':=g') (g:=g) rfl rfl).1 ho)
            have hsp: ∀p,p∈K2 k m args∨p∈side→p:=fun p hp=>hs p (G4.2 hp)
            have hget2: ∀i,i≠k→pZ ((k,pW.dead)::H) i=pZ H i:=fun i hi=>by
              simp only[pZ];rw[aSl (Ne.symm hi)]
            have hin: ∀{i},i∈qB U→i≠k:=fun h e=>hkU' (e▸h)
            have hup: ∀{i blk},i∈qB U→pZ (qS U H) i=some blk→pZ (qS U ((k,pW.dead)::H)) i=some blk:=by
              intro i blk hi h
              have: ∀{U:List (Nat×pW)},i∈qB U→pZ (qS U ((k,pW.dead)::H)) i=pZ (qS U H) i:=by
                intro U
                induction U with
                |nil=>intro h;cases h
                | cons q U ih=>
                  intro h;obtain⟨j,b⟩:=q;simp only[qS,pZ];split
                  .rfl
                  rename_i hne
                  simp only[qB,aSx] at h;exact ih (h.resolve_left (fun e=>hne e.symm))
              rw[this hi];exact h
            have hcells: ∀{i blk},i∈qB U→pZ (qS U H) i=some blk→∃t y,blk= .cells t y []∧FV t=true:=by
              intro i blk hi h
              have: ∀{U:List (Nat×pW)},MV U=true→i∈qB U→pZ (qS U H) i=some blk→∃t y,blk= .cells t y []∧FV t=true:=by
                intro U
                induction U with
                |nil=>intro _ h;cases h
                | cons q U ih=>
                  intro hU hi h;obtain⟨j,b⟩:=q;cases b with
                  | cells t y ts=>
                    cases ts with
                    |cons _ _=>simp [MV] at hU
                    | nil=>
                      simp only[MV,aSB] at hU;simp only[qS,pZ] at h;split at h
                      · obtain rfl:=aSo h
                        exact⟨t,y,rfl,hU.1⟩
                      · rename_i hne
                        simp only[qB,aSx] at hi;exact ih hU.2 (hi.resolve_left (fun e=>hne e.symm)) h
                  |_=>simp [MV] at hU
              exact this hU hi h
            have hownI: ∀b o,sK g' ((k,pW.dead)::H) (qB U) b o→sK g H (qB U) b o:=fun b o ⟨i,blk,hi,h1,h2⟩=>⟨i,blk,hi,(hget2 i (hin hi)).symm.trans h1,(wW (g':=g') (g:=g) rfl rfl).1 h2⟩;refine(aBd hcon hH' (aBe le hlist hargs (fun p hp=>hsp p (.inl hp))) hi (fun p hp=>hsp p (.inr hp)) (fun i hi' hb=>hfr i hi' hb)).mono ?_;rintro en w' ⟨v1,g1,rfl,hE⟩
            let g2:Gh:={g1 with S:=g.S}
            have hle:Le g w g2 w':=⟨fun _ _ h=>h,fun b o h=>hE.le.cell b o (.inl h),fun i p h=>hE.le.J i p h,fun i n u h=>hE.le.cur i n u h⟩
            have hfr2:Fr (sK g H (qB U)) w w' g.S g2.S:=
              ⟨hE.fr.os,hE.fr.tape,hE.fr.output,hE.fr.size,fun b hb hno=>hE.fr.blk b hb (fun o h=>hno o (hownI b o h)),fun b o hb hno=>hE.fr.cell b o hb (fun h=>hno (hownI b o h)),fun _ _ h=> .inl h,fun b s h=>(hE.fr.shape b s h).imp id fun h o=>hownI b o (h o)⟩
            have hgho: ∀i,i∉qB U→g2.J i=g.J i∧g2.cur i=g.cur i:=fun i hi=>hE.gho i hi
            have hperm: ∀i blk b o,i∈qB U→pZ (qS U H) i=some blk→s8 g2 i blk b o→w.heap.size≤b∨sK g H (qB U) b o:=fun i blk b o hi hg ho=>
              (hE.perm i blk b o hi (hup hi hg) ((wW (g':=g2) (g:=g1) rfl rfl).1 ho)).imp id (hownI b o)
            refine⟨v1,g2,rfl,hle,?_,hH.upd hle hfr2 hperm hgho (fun i blk hi hg=>?_) (fun i j bi bj b o hi hj hij hgi hgj hoi hoj=>?_) (fun b o h=>aSW (hH.sl b o h) hE.fr.size),hfr2,hperm,hgho,fun i u y us h=>?_⟩
            .exact aKp hsl hE.slot
            · obtain⟨t2,y2,rfl,hn2⟩:=hcells hi hg
              obtain⟨p,cs,q1,q2,q3,q4,q5,_⟩:=hE.heap.blk i _ (hup hi hg);exact⟨p,cs,q1,KY hn2 q2,q3,q4,fun j hj hS=>q5 j hj (hE.le.S _ _ (.inl hS)),fun _ _ hm=>by cases hm⟩
            .exact hE.heap.dis i j bi bj b o hij (hup hi hgi) (hup hj hgj) ((wW (g':=g2) (g:=g1) rfl rfl).1 hoi) ((wW (g':=g2) (g:=g1) rfl rfl).1 hoj)
            by_cases hiU:i∈qB U
            · rcases hE.ty i u y us (hup hiU h) with⟨x',ts',q⟩ |q
              .exact .inl ⟨x',ts',(hget2 i (hin hiU)).symm.trans q⟩
              exact .inr q
            exact .inl ⟨y,us,(A0 hiU).symm.trans h⟩
          .cases hr
    |_=>cases hr
theorem aKr {P:Program}{f:FuncId}{F:(t:Ty)→List t.den→Option (List t.den)}(hF:V1 P f F) {g:Gh}{w:pN}{H:s5}(hH:s9 g w H) {args:List pX}{vals:pJ}(hargs:vG g w args vals) {e:qJ}
    (hr:T6 H F args=some e) (hs: ∀p∈e.side,p):Calls P f vals.toArray w (fun en w'=> ∃v g',en= .returned v∧rE g w H e g' w' v):=by
  unfold T6 at hr;split at hr
  · rename_i k n x
    obtain⟨v,vs,rfl,ha,hv⟩:=hargs;rw[show vs=[] from hv];cases hk:pZ H k with
    |none=>rw[hk] at hr;cases hr
    | some b=>
      rw[hk] at hr;cases b with
      | row e0 t l m=>
        simp only[Y8] at hr;cases hf:F t l with
        |none=>rw[hf] at hr;cases hr
        | some l'=>
          rw[hf] at hr;cases hr;have hnm:n=m:=hs _ aSJ;subst hnm;obtain⟨hl,v0,xs,hv0,hown,hFx,hnone,hseal⟩:=hH.blk k _ hk;have h1:=ha.1.1;rw[hv0] at h1;obtain rfl:=aSo h1;refine(hF g w e0 t l l' v0 n xs hH.tab.1 hown hFx hl (hs _ pE) hf).mono ?_;rintro en w' ⟨rfl,hl',xs',k1,k2,k3⟩;have hownk: ∀b,v0.ownBlock=some b→∀o,sK g H [k] b o:=fun b hb o=>⟨k,_,by simp,hk,v0,hv0,hb⟩;refine⟨_,_,rfl,rE.row (v:=v0) (xs:=xs') hH hl' k1 k2 hnone (fun u hu=>by rw[hv0] at hu;exact(aSo hu).symm) (.inr ⟨v0.ownBlock,k3,hownk⟩) (fun b o hS=>?_) hseal (fun b hb=> .inr (hownk b hb)) ⟨⟨[],rfl,rfl⟩,trivial⟩⟩;have hne:v0.ownBlock≠some b:=fun e=>hseal b e o hS;exact aSH (a:=⟨b,o,none⟩) (k3.block b (hH.sl b o hS) (fun e=>hne e.symm))
      |_=>cases hr
  cases hr
section
variable {P:Program}{o:Oper}{a:Act}{g:Gh}{w:pN}{H:s5}{T:sI}{Γ:sV}(hT:wY P T) (hΓ:DH P Γ) (hH:s9 g w H)
include hT hΓ hH
theorem aBg {f:FuncId}{args:List pX}{vals:pJ}(hargs:vG g w args vals) {base:Nat}{e:qJ}(hr:K8 H base args (HU Γ f)=some e) (hs: ∀p∈e.side,p) (hfr:xR g base e):
    (∀args w,(callFunc f args).run P w= .ok (.enter f args) w)∧Calls P f vals.toArray w (fun en w'=> ∃v g',en= .returned v∧rE g w H e g' w' v):=by
  cases hg:HU Γ f with
  |none=>rw[hg] at hr;cases hr
  | some sg=>
    rw[hg] at hr
    obtain⟨hlt,hg⟩:f<1000000000∧Γ f=some sg:=by
      unfold HU at hg;split at hg
      .rename_i h;exact⟨h,hg⟩
      cases hg
    obtain⟨hcon,hrow⟩:=hΓ f sg hlt hg;refine⟨hcon.1,?_⟩;simp only[K8] at hr;cases hF:sg.row with
    | some F=>
      rw[hF] at hr;exact aKr (hrow F hF) hH hargs hr hs
    | none=>
      rw[hF] at hr;simp only[U0] at hr;cases hn:PF sg.ps args with
      | some k=>
        rw[hn] at hr;exact aKq hcon hH hargs hr hs hfr
      | none=>
        rw[hn] at hr;exact aBd hcon hH hargs hr hs hfr
theorem aBh {fop:Operand}{args:Array Operand}{tys:Array TypeId}(ho:o.op= .call ⟨.value fop,args,tys⟩) {ρ:Operand→pX}(hf:rF g w (ρ fop) (a.eval fop)) (hρ: ∀x∈args.toList,rF g w (ρ x) (a.eval x)) {base:Nat}{e:qJ}
    (hr:K9 Γ H base (BJ T ρ args.toList tys.toList) (ρ fop)=some e) (hs: ∀p∈e.side,p) (hfr:xR g base e) (hlen:args.size=tys.size):rC P o a g w H e:=by
  have hargs:=V3 (a:=a) (ρ:=ρ) hT hΓ hH (xs:=args.toList) (ts:=tys.toList) (by simpa using hlen) hρ;unfold K9 at hr;split at hr
  · rename_i f caps k heq
    rw[heq] at hf
    obtain⟨vs,hcv,hfv⟩: ∃vs,yA g caps vs∧a.eval fop= .func (.func f) #[] vs.toArray:=by
      rcases hf.1 with⟨h1,_⟩ |⟨_,vs,h2,h3⟩
      .cases h1
      simp only[aS4,and_true] at h3
      exact⟨vs,h2,h3⟩
    obtain⟨hen,hc⟩:=aBg hT hΓ hH (aJR hT hΓ hH hargs (aAJ hT hΓ hH hcv)) hr hs hfr;intro K Q hK;refine V4 ho hfv hen (hc.mono ?_);rintro en w' ⟨v,g',rfl,hE⟩;exact⟨v,rfl,hK _ w' v hE.w⟩
  · rename_i f k heq
    rw[heq] at hf
    have hfv:a.eval fop= .func (.func f) #[] ([]:pJ).toArray:=by
      rcases hf.1 with⟨h1,_⟩ |⟨_,h2⟩
      .cases h1
      simpa[Rd,UL] using h2
    obtain⟨hen,hc⟩:=aBg hT hΓ hH hargs hr hs hfr;intro K Q hK;refine V4 ho hfv hen ?_;rw[List.append_nil];refine hc.mono ?_;rintro en w' ⟨v,g',rfl,hE⟩;exact⟨v,rfl,hK _ w' v hE.w⟩
  cases hr
theorem aKs {fop:Operand}{args:Array Operand}{tys:Array TypeId}(ho:o.op= .call ⟨.value fop,args,tys⟩) {ρ:Operand→pX}(hf:a.eval fop= .func (.func HM) #[] #[]) (hρ: ∀x∈args.toList,rF g w (ρ x) (a.eval x)) {e:qJ}
    (hr:Z7 (BJ T ρ args.toList tys.toList) (rO T JU)=some e) (hlen:args.size=tys.size):rC P o a g w H e:=by
  have hargs:=V3 (a:=a) (ρ:=ρ) hT hΓ hH (xs:=args.toList) (ts:=tys.toList) (by simpa using hlen) hρ;have hfv:a.eval fop= .func (.func HM) #[] ([]:pJ).toArray:=hf
  have go: ∀{s:pX}{el by':Nat}{ar:Bool}{ls:List (Nat×TypeId×Nat)},BJ T ρ args.toList tys.toList=[s]→rO T JU=some ⟨.ap,el,by',ar,ls⟩→(∀v,rF g w s v→∀g' w',Le g w g' w'→yK g' w' s.1 v)→(∀v,rF g w s v→∃p,v= .pointer p)→rC P o a g w H ⟨[],(.apd s.1,none),[],[]⟩:=by
    intro s el by' ar ls h1 h2 h3 h4;rw[h1] at hargs;obtain⟨v,vs,hv,hs,hvs⟩:=hargs;rw[show vs=[] from hvs] at hv;obtain⟨pp,rfl⟩:=h4 v hs;obtain⟨_,hmk,hen,_,_⟩:=(sP hT h2).2;intro K Q hK;refine V4 ho hfv hen ?_;rw[List.append_nil,hv];refine(hmk w pp).mono ?_;rintro en w' ⟨b,rfl,hb,hb2,hc,hbel⟩;have e1:=rE.below hH hbel
    let g':Gh:={g with S:=fun q oo=>g.S q oo∨(q=b∧oo=0)}
    have le:Le g w' g' w':=⟨fun _ _ h=> .inl h,fun _ _ _=>rfl,fun _ _ h=>h,fun _ _ _ h=>h⟩
    have hno: ∀i blk,pZ H i=some blk→∀oo,¬s8 g i blk b oo:=fun i blk h1 oo h2=>by
      have:=KO (hH.blk i blk h1) h2;omega
    have hH2:s9 g' w' H:=by
      have h4:s9 g w' H:=e1.heap;refine⟨fun i blk hg=>I4 (h4.blk i blk hg) le rfl rfl (fun _ _ _=>⟨rfl,rfl⟩) (fun _ _=>rfl) (fun q oo ho hS=>?_) (fun _ _ _ _ h=>h),fun i j bi bj q oo hij h5 h6 o1 o2=>h4.dis i j bi bj q oo hij h5 h6 ((wW (g':=g') (g:=g) rfl rfl).1 o1) ((wW (g':=g') (g:=g) rfl rfl).1 o2),fun q oo hS=>?_,h4.tab.1,fun i blk q oo hg ho=>h4.tab.2 i blk q oo hg ((wW (g':=g') (g:=g) rfl rfl).1 ho)⟩
      · rcases hS with hS|⟨rfl,_⟩
        .exact hS
        exact absurd ho (hno i blk hg oo)
      rcases hS with hS|⟨rfl,_⟩
      .exact h4.sl q oo hS
      exact hb2
    have hle2:Le g w g' w':=e1.le.trans le;refine⟨_,rfl,hK g' w' _ (rE.w ⟨hle2,⟨⟨b,.pointer pp,rfl,.inr ⟨rfl,rfl⟩,hc,h3 _ hs g' w' hle2⟩,trivial⟩,hH2,⟨e1.fr.os,e1.fr.tape,e1.fr.output,e1.fr.size,e1.fr.blk,e1.fr.cell,fun q oo hS=>?_,e1.fr.shape⟩,fun _ _ _ _ hi=>(by cases hi),fun _ _=>⟨rfl,rfl⟩,fun _ _ y us h=> .inl ⟨y,us,h⟩⟩)⟩;rcases hS with hS|⟨rfl,_⟩
    .exact .inl hS
    exact .inr (.inl hb)
  unfold Z7 at hr;split at hr
  · rename_i p k el by' ar ls h1 h2
    cases hr
    exact go h1 h2 (fun v hs g' w' hle=>Q1 hle hs.1) (fun v hs=>by
      rcases hs.1 with⟨h,_⟩ |⟨_,q,_,h⟩
      .cases h
      exact⟨_,(List.cons.inj h).1⟩)
  · rename_i k n c ix oo k2 el by' ar ls h1 h2
    cases hr
    exact go h1 h2 (fun v hs g' w' hle=>Q1 hle hs.1) (fun v hs=>by
      obtain⟨b,cap,_,_,_,h⟩:=hs.1;exact⟨_,h⟩)
  cases hr
omit hT hΓ hH in
theorem a0J {x:Nat×Nat}{o n:Nat}: ∀{ts:pH},x∈t6 ts o n→x∈ts
  |[],h=>h
  | (q,k)::r,h=>by
    simp only[t6] at h;split at h
    .exact aSy _ (a0J h)
    rcases aSx.1 h with h|h
    .rw[h];exact aSJ
    exact aSy _ (a0J h)
omit hT hΓ hH in
theorem aKt {v:Ty}: ∀{t:Ty}{x:t.den}{o:Nat}{y:p8}{l:(Ty.list v).den},qT .str t x o=some y→qT (.list v) t x o=some l→False:=by
  intro t
  induction t with
  | pair a b iha ihb=>
    intro x o y l h g
    have key: ∀{w:Ty}(hw:w.isRow=false),qT w (.pair a b) x o=(if o<a.cells then qT w a x.1 o else qT w b x.2 (o-a.cells)):=by
      intro w hw;cases o with
      | zero=>
        conv=>lhs;unfold qT
        rw[aTI (by intro e;subst e;cases hw),Nat.zero_sub]
      |succ o=>simp [qT]
    rw[key rfl] at h g;split at h
    · rename_i ho
      rw[aSj ho] at g;exact iha h g
    · rename_i ho
      rw[aSl ho] at g;exact ihb h g
  | str=>
    intro x o y l h g;cases o with
    | zero=>
      unfold qT at g;split at g
      .rename_i e;cases e
      .cases g
    |succ o=>simp [qT] at g
  | _=>
    intro x o y l h g;cases o with
    | zero=>
      unfold qT at h;split at h
      .rename_i e;cases e
      .cases h
    |succ o=>simp [qT] at h
omit hT hΓ in
theorem aKu {i:Nat}{u:Ty}{x z:u.den}{y:p8}{toks0 toks:pH}{p:Pl}(hb:pZ H i=some (.cells u x toks0)) (hp:g.J i=some p) (hsub: ∀x∈toks,x∈toks0) {o:Nat}(hg:qT .str u x o=some y) (hset:sD .str y u x o=some z):
    rE g w H ⟨[],(.any,none),[(i,.cells u z toks)],[]⟩ g w undef:=by
  refine rE.reread hH hb hp hsub (fun cs hR _=>?_) (fun v q l hl=>UX hH hset hl (fun⟨h1,h2⟩=>?_))
  · obtain⟨c1,c2,c3,rfl,rfl,hR2⟩:=BL hR hg
    have e2:c2=[.string ⟨y.toArray⟩]:=hR2;exact a0n hset (v:= .string ⟨y.toArray⟩) rfl hR (by rw[e2];simp)
  have:q=o:=by simp only[Ty.cells] at h2;omega
  subst this;exact aKt hg hl
omit hT hΓ in
theorem aBi {i:Nat}{u:Ty}{x z:u.den}{b:Bool}{y:p8}{ts:pH}{p:Pl}{o:Nat}(hb:pZ H i=some (.cells u x ts)) (hp:g.J i=some p) (hset:MZ b y o (some x)=some z):
    rE g w H ⟨[],(.any,none),[(i,.cells u z (t6 ts o 1))],[]⟩ g (if b=true then w.setCells p.1 (p.2+o) [.string ⟨y.toArray⟩] else w) undef:=by
  simp only[MZ] at hset;cases hy:qT .str u x o with
  |none=>rw[hy] at hset;cases hset
  | some y0=>
    rw[hy] at hset;simp only[a9I] at hset;cases b with
    | true=>
      rw[aSj rfl];exact(rE.store (side:=[]) (rds:=[]) (k:=none) (v:= .string ⟨y.toArray⟩) hH hb hp (t:= .str) hset (cy:=[.string ⟨y.toArray⟩]) rfl trivial (fun _ _ _=>rfl) (fun _=>rfl)).1
    | false=>
      rw[aSl pE];exact aKu hH hb hp (fun _ h=>a0J h) hy hset
omit hT hΓ in
theorem rE.again {k:Nat}{b:pW}(hk:pZ H k=some b):rE g w H ⟨[],(.any,none),[(k,b)],[]⟩ g w undef:=by
  refine rE.more (U:=[]) (sd:=[]) (r:=[]) (rE.pure hH ⟨trivial,trivial⟩) (fun i=>?_) (fun _ h=>by cases h);simp only[qS,pZ];split
  .rename_i e;subst e;exact hk.symm
  rfl
omit hT hΓ in
theorem aBj {i:Nat}{u:Ty}{x:u.den}{y:p8}{ts:pH}{p:Pl}{o:Nat}(hb:pZ H i=some (.cells u x ts)) (hp:g.J i=some p) (hy:qT .str u x o=some y):w.cell? ⟨p.1,p.2+o,none⟩=some (.string ⟨y.toArray⟩)∧w.frozen? ⟨p.1,p.2+o,none⟩=false:=by
  obtain⟨p',cs,hp',hR,hra,hth,_,_⟩:=hH.blk i _ hb;rw[hp] at hp';obtain rfl:=aSo hp';have hl:=sL hR;obtain⟨c1,c2,c3,rfl,rfl,hR2⟩:=BL hR hy;have e2:c2=[.string ⟨y.toArray⟩]:=hR2;subst e2;simp only[aSp,aTw] at hl;exact⟨hra _ _ pE,(hth.1 _ pC).2⟩
omit hT hΓ in
theorem aBk {k:Nat}{e:TypeId}{t:Ty}{l:List t.den}{m b cap j o':Nat}{x:t.den}{v:pO}(hk:pZ H k=some (.row e t l m)) (hcur:g.cur k m=some (.slice (some ⟨b,0,none⟩) m cap)) (hx:l[j]? =some x) (hv: ∀cs,Rd g w t x cs→cs[o']? =some v) (ho:o'<t.cells):
    w.cell? ⟨b,j*t.cells+o',none⟩=some v∧w.frozen? ⟨b,j*t.cells+o',none⟩=false:=by
  obtain⟨hl,v0,xs,hv0,hown,hF,_,_⟩:=hH.blk k _ hk;rw[hcur] at hv0;obtain rfl:=aSo hv0;obtain⟨c1,c2,c3,e1,e2,e3,e4⟩:=UU hF hx
  have h1:=hown.cells (g:=b) rfl (j*t.cells+o') v (by
    rw[e1,aSv,aSt pC,e2,aS9,aSD pC];exact hv c2 e4)
  rw[aTp,aSS] at h1;rcases hown.2 with⟨h5,_⟩ |⟨q,cap',cur,h5,_,hg,_⟩
  .cases h5
  simp only[aTX,aSk,Addr.mk.injEq,and_true,true_and] at h5;obtain⟨rfl,rfl⟩:=h5;exact⟨h1,frozen_of_row w b _ cur e hg⟩
omit hT hΓ in
theorem aKv {k:Nat}{e:TypeId}{l:p9}{m:Nat}{b:Bool}{z:p8}(hk:pZ H k=some (.row e .str l m)) {bb cap:Nat}(hc:b=true→g.cur k m=some (.slice (some ⟨bb,0,none⟩) m cap)∧0<m):
    ∃g',rE g w H ⟨[],(.any,none),[(k,.row e .str (ER b z l) m)],[]⟩ g' (if b=true then w.setCells bb (m-1) [.string ⟨z.toArray⟩] else w) undef:=by
  cases b with
  | false=>
    rw[aSl pE];exact⟨g,rE.again hH hk⟩
  | true=>
    obtain⟨h1,h2⟩:=hc rfl;have hl:=(hH.blk k _ hk).1;rw[aSj rfl];have:=rE.poke (o':=0) (uT:= .str) (y:=z) (z':=z) (i:=((m-1:Nat):Int)) (u:= .string ⟨z.toArray⟩) hH hk h1 pC pC (by unfold sD;rw[aUe rfl];rfl) rfl;refine⟨g.tok k m (.slice (some ⟨bb,0,none⟩) m cap),?_⟩
    have e1:ER true z l=l.set (((m-1:Nat):Int)).toNat z:=by
      unfold ER;rw[aSj rfl,aTb,hl]
    have e2:(((m-1:Nat):Int)).toNat*(Ty.str).cells+0=m-1:=by simp [Ty.cells]
    rw[e1];rw[e2] at this;exact this
omit hT hΓ in
theorem aKw {k:Nat}{e:TypeId}{l:List (p8×p8×Unit)}{m:Nat}{b:Bool}{z:p8}(hk:pZ H k=some (.row e FZ l m)) {bb cap:Nat}(hc:b=true→g.cur k m=some (.slice (some ⟨bb,0,none⟩) m cap)∧0<m):
    ∃g',rE g w H ⟨[],(.any,none),[(k,.row e FZ (ES b z l) m)],[]⟩ g' (if b=true then w.setCells bb ((m-1)*2+1) [.string ⟨z.toArray⟩] else w) undef:=by
  cases b with
  | false=>
    rw[aSl pE];exact⟨g,rE.again hH hk⟩
  | true=>
    obtain⟨h1,h2⟩:=hc rfl;have hl:List.length l=m:=(hH.blk k _ hk).1;rw[aSj rfl]
    have hn:qH FZ l (((m-1:Nat):Int))=l.getD (l.length-1) ([],[],()):=by
      unfold qH;rw[aTb,hl];rfl
    have:=rE.poke (t:=FZ) (l:=l) (o':=1) (uT:= .str) (y:=z) (z':=((l.getD (l.length-1) ([],[],())).1,z,())) (i:=((m-1:Nat):Int)) (u:= .string ⟨z.toArray⟩) hH hk h1 pC pC (by rw[hn];rfl) rfl;refine⟨g.tok k m (.slice (some ⟨bb,0,none⟩) m cap),?_⟩
    have e1:ES true z l=List.set l (((m-1:Nat):Int)).toNat ((l.getD (l.length-1) ([],[],())).1,z,()):=by
      unfold ES;rw[aSj rfl,aTb,hl]
    have e2:(((m-1:Nat):Int)).toNat*FZ.cells+1=(m-1)*2+1:=by simp [Ty.cells]
    rw[e1];rw[e2] at this;exact this
theorem aKx {fop:Operand}{args:Array Operand}{tys:Array TypeId}(ho:o.op= .call ⟨.value fop,args,tys⟩) {ρ:Operand→pX}{x:Nat×Nat×(Nat×Nat)×(Nat×Nat)}(hf:sW g w .ap x (a.eval fop)) (hρ: ∀x∈args.toList,rF g w (ρ x) (a.eval x)) {e:qJ}
    (hr:KD Γ H x (BJ T ρ args.toList tys.toList) (rO T JU)=some e) (hs: ∀p∈e.side,p) (hlen:args.size=tys.size):rC P o a g w H e:=by
  have hargs:=V3 (a:=a) (ρ:=ρ) hT hΓ hH (xs:=args.toList) (ts:=tys.toList) (by simpa using hlen) hρ;generalize hss:BJ T ρ args.toList tys.toList=ss at hr hargs;generalize hst:rO T JU=ot at hr;unfold KD at hr;split at hr
  case h_2=>cases hr
  rename_i c i k3 n3 k4 n4 s kk el by' ar ls;obtain⟨v0,vs',hv,hs1,hvs⟩:=hargs;rw[show vs'=[] from hvs] at hv;have hv0:=x6 hs1.1;obtain⟨_,_,_,hen,hap⟩:=(sP hT hst).2;generalize hi:pZ H i=oi at hr;generalize hne:ZC i k3 k4=ne at hr;unfold U5 at hr;split at hr
  case h_2=>cases hr
  rename_i u xo ts;generalize h3:pZ H k3=o3 at hr;generalize h4:pZ H k4=o4 at hr;unfold ZB at hr;split at hr
  case h_2=>cases hr
  rename_i e3 l3 m3 e4 l4 m4;generalize hsg:HU Γ FS=osg at hr;generalize hy1:qT .str u xo 6=oy1 at hr;generalize hy2:qT .str u xo 7=oy2 at hr;cases osg with
  |none=>cases hr
  |some sg=>
  cases oy1 with
  |none=>cases hr
  |some y1=>
  cases oy2 with
  |none=>cases hr
  |some y2=>
  simp only[ZA] at hr;generalize hy:KB c y1 y2 (EQ l3) (HV l4)=y at hr;generalize hC:sg.C [(.val .str (y++s),none)] []=oC at hr;unfold Z9 at hr;split at hr
  case h_2=>cases hr
  rename_i sd ok;generalize hx1:MZ (ok&&decide (c=1)) (y++s) 6 (some xo)=ox1 at hr;cases ox1 with
  |none=>cases hr
  |some x1=>
  generalize hx2:MZ (ok&&decide (c=2)) (y++s) 7 (some x1)=ox2 at hr;cases ox2 with
  |none=>cases hr
  |some x2=>
  simp only[Z8,aSk] at hr;subst hr;have hc0:c≠0:=hs _ pE;have hn3:n3=m3:=hs _ pE;have hn4:n4=m4:=hs _ pE;have hlz:((y++s).length:Int)≤9223372036854775807:=hs _ pE;have hsd: ∀p∈sd,p:=fun p hp=>hs p (by simp [hp]);subst hn3 hn4
  obtain⟨hik3,hik4,hk34⟩:i≠k3∧i≠k4∧k3≠k4:=by
    unfold ZC at hne;split at hne
    .cases hne
    split at hne
    .cases hne
    split at hne
    .cases hne
    exact⟨by assumption,by assumption,by assumption⟩
  rcases wZ rfl hf with⟨h,_⟩ |⟨_,b,α,e1,hS,hcell,a1,a2,a3,a4⟩
  .exact absurd h hc0
  simp only[aS4,and_true] at e1;obtain⟨p,cs0,hp,_⟩:=hH.blk i _ hi
  have hα:w.cell? α=some (.string ⟨y.toArray⟩)∧w.frozen? α=false∧α.spot=none:=by
    by_cases c1:c=1
    · subst c1
      obtain⟨p',hp',rfl⟩:=a1 rfl;rw[hp] at hp';obtain rfl:=aSo hp';have:y=y1:=by rw[←hy];rfl
      subst this;have:=aBj hH hi hp hy1;exact⟨this.1,this.2,rfl⟩
    by_cases c2:c=2
    · subst c2
      obtain⟨p',hp',rfl⟩:=a2 rfl;rw[hp] at hp';obtain rfl:=aSo hp';have:y=y2:=by rw[←hy];rfl
      subst this;have:=aBj hH hi hp hy2;exact⟨this.1,this.2,rfl⟩
    by_cases c3:c=3
    · subst c3
      obtain⟨bb,cap,hcur,hpos,rfl⟩:=a3 rfl;have:y=EQ l3:=by rw[←hy];rfl
      subst this;have hl:List.length l3=n3:=(hH.blk k3 _ h3).1;have hlt:n3-1<l3.length:=by omega
      have hx:l3[n3-1]? =some (EQ l3):=by
        unfold EQ;rw[aSM,hl,aSu hlt];rfl
      have:=aBk (o':=0) hH h3 hcur hx (fun cs hR=>by rw[show cs=[.string ⟨(EQ l3).toArray⟩] from hR];rfl) (by simp [Ty.cells]);simp only[Ty.cells,aUc,aTu] at this;exact⟨this.1,this.2,rfl⟩
    obtain⟨bb,cap,hcur,hpos,rfl⟩:=a4 pC
    have:y=HV l4:=by
      rw[←hy];unfold KB;rw[aSl c1,aSl c2,aSl c3]
    subst this;have hl:List.length l4=n4:=(hH.blk k4 _ h4).1;have hlt:n4-1<List.length l4:=by omega
    have hx:l4[n4-1]? =some (l4.getD (l4.length-1) ([],[],())):=by
      rw[aSM,hl,aSu hlt];rfl
    have:=aBk (t:=FZ) (o':=1) (v:= .string ⟨(HV l4).toArray⟩) hH h4 hcur hx (fun cs hR=>by
      obtain⟨d1,d2,rfl,r1,e1,e2,rfl,r2,r3⟩:=hR;rw[show d1=[_] from r1,show e1=[_] from r2];rfl) (by simp [Ty.cells])
    simp only[Ty.cells] at this;exact⟨this.1,this.2,rfl⟩
  have hval: ∀w1,Below w.heap.size w w1→Calls P FS #[.string ⟨(y++s).toArray⟩] w1 fun e w'=>e= .returned (.bool ok)∧Below w1.heap.size w1 w':=by
    intro w1 hb1
    obtain⟨hlt,hg⟩:FS<1000000000∧Γ FS=some sg:=by
      unfold HU at hsg;split at hsg
      .rename_i h;exact⟨h,hsg⟩
      cases hsg
    have hT1:EJ w1:=HO hH.tab.1 hb1.size (fun q hq=>hb1.block q (aSW hq hH.tab.1.1));have hH0:s9 ⟨fun _ _=>False,fun _=>none,fun _ _=>none⟩ w1 (qQ 0 []):=⟨fun _ _ h=>(by cases h),fun _ _ _ _ _ _ _ h=>(by cases h),fun _ _ h=>h.elim,⟨hT1,fun _ _ _ _ h=>(by cases h)⟩⟩;refine((hΓ FS sg hlt hg).1.2 _ w1 [(.val .str (y++s),none)] [.string ⟨(y++s).toArray⟩] [] _ hH0 ⟨_,[],rfl,⟨.inr ⟨rfl,rfl⟩,trivial⟩,rfl⟩ hC hsd).mono ?_;rintro en w' ⟨v,g',rfl,r⟩;refine⟨by rw[vE r.ret.1],r.fr.os,r.fr.tape,r.fr.output,r.fr.size,fun q hq=>r.fr.blk q hq fun oo ⟨j,blk,h1,_⟩=>(by cases h1)⟩
  have key:=hap w b α y s ok hcell hα.1 hα.2.1 hα.2.2 hlz hval;intro K Q hK;refine V4 ho (caps:=[.pointer (some ⟨b,0,none⟩)]) (by rw[e1]) hen ?_;rw[hv,hv0];refine key.mono ?_;rintro en w' ⟨rfl,w1,hbel,hw'⟩;have E0:=rE.below hH hbel;have E1:=aBi (b:=ok&&decide (c=1)) (y:=y++s) (o:=6) E0.heap hi hp hx1;have hi1:pZ (qS [(i,pW.cells u x1 (t6 ts 6 1))] H) i=some (.cells u x1 (t6 ts 6 1)):=by simp [qS,pZ]
  have E2:=aBi (b:=ok&&decide (c=2)) (y:=y++s) (o:=7) E1.heap hi1 hp hx2
  have h3':pZ (qS [(i,pW.cells u x2 (t6 (t6 ts 6 1) 7 1))] (qS [(i,pW.cells u x1 (t6 ts 6 1))] (qS [] H))) k3=some (.row e3 .str l3 n3):=by
    simp only[qS,pZ];rw[aSl hik3,aSl hik3];exact h3
  obtain⟨bb,cap,hb3⟩: ∃bb cap,((ok&&decide (c=3))=true→g.cur k3 n3=some (.slice (some ⟨bb,0,none⟩) n3 cap)∧0<n3∧α=⟨bb,n3-1,none⟩):=by
    by_cases c3:c=3
    · obtain⟨bb,cap,q1,q2,q3⟩:=a3 c3
      exact⟨bb,cap,fun _=>⟨q1,q2,q3⟩⟩
    exact⟨0,0,fun h=>by simp [c3] at h⟩
  obtain⟨g3,E3⟩:=aKv (b:=ok&&decide (c=3)) (z:=y++s) (bb:=bb) (cap:=cap) E2.heap h3' (fun h=>⟨(hb3 h).1,(hb3 h).2.1⟩)
  have h4':pZ (qS [(k3,pW.row e3 .str (ER (ok&&decide (c=3)) (y++s) l3) n3)] (qS [(i,pW.cells u x2 (t6 (t6 ts 6 1) 7 1))] (qS [(i,pW.cells u x1 (t6 ts 6 1))] (qS [] H)))) k4=some (.row e4 FZ l4 n4):=by
    simp only[qS,pZ];rw[aSl hk34,aSl hik4,aSl hik4];exact h4
  obtain⟨bb4,cap4,hb4⟩: ∃bb cap,((ok&&decide (4≤c))=true→g.cur k4 n4=some (.slice (some ⟨bb,0,none⟩) n4 cap)∧0<n4∧α=⟨bb,(n4-1)*2+1,none⟩):=by
    by_cases c4:4≤c
    · obtain⟨bb,cap,q1,q2,q3⟩:=a4 c4
      exact⟨bb,cap,fun _=>⟨q1,q2,q3⟩⟩
    exact⟨0,0,fun h=>by simp [c4] at h⟩
  obtain⟨g4,E4⟩:=aKw (b:=ok&&decide (4≤c)) (z:=y++s) (bb:=bb4) (cap:=cap4) E3.heap h4' (fun h=>⟨E3.le.cur _ _ _ (hb4 h).1,(hb4 h).2.1⟩);have T1:=rE.trans (side:=[]) (rds:=[]) E0 E1;have T2:=rE.trans (side:=[]) (rds:=[]) T1 E2;have T3:=rE.trans (side:=[]) (rds:=[]) T2 E3;have T4:=rE.trans (side:=[]) (rds:=[]) T3 E4
  have hww:(if (ok&&decide (4≤c))=true then(if (ok&&decide (c=3))=true then(if (ok&&decide (c=2))=true then(if (ok&&decide (c=1))=true then w1.setCells p.1 (p.2+6) [.string ⟨(y++s).toArray⟩] else w1).setCells p.1 (p.2+7) [.string ⟨(y++s).toArray⟩] else(if (ok&&decide (c=1))=true then w1.setCells p.1 (p.2+6) [.string ⟨(y++s).toArray⟩] else w1)).setCells bb (n3-1) [.string ⟨(y++s).toArray⟩] else(if (ok&&decide (c=2))=true then(if (ok&&decide (c=1))=true then w1.setCells p.1 (p.2+6) [.string ⟨(y++s).toArray⟩] else w1).setCells p.1 (p.2+7) [.string ⟨(y++s).toArray⟩] else(if (ok&&decide (c=1))=true then w1.setCells p.1 (p.2+6) [.string ⟨(y++s).toArray⟩] else w1))).setCells bb4 ((n4-1)*2+1) [.string ⟨(y++s).toArray⟩] else(if (ok&&decide (c=3))=true then(if (ok&&decide (c=2))=true then(if (ok&&decide (c=1))=true then w1.setCells p.1 (p.2+6) [.string ⟨(y++s).toArray⟩] else w1).setCells p.1 (p.2+7) [.string ⟨(y++s).toArray⟩] else(if (ok&&decide (c=1))=true then w1.setCells p.1 (p.2+6) [.string ⟨(y++s).toArray⟩] else w1)).setCells bb (n3-1) [.string ⟨(y++s).toArray⟩] else(if (ok&&decide (c=2))=true then(if (ok&&decide (c=1))=true then w1.setCells p.1 (p.2+6) [.string ⟨(y++s).toArray⟩] else w1).setCells p.1 (p.2+7) [.string ⟨(y++s).toArray⟩] else(if (ok&&decide (c=1))=true then w1.setCells p.1 (p.2+6) [.string ⟨(y++s).toArray⟩] else w1))))=w':=by
    rw[hw'];cases ok with
    |false=>simp
    | true=>
      by_cases c1:c=1
      · subst c1
        obtain⟨p',hp',rfl⟩:=a1 rfl;rw[hp] at hp';obtain rfl:=aSo hp';simp
      by_cases c2:c=2
      · subst c2
        obtain⟨p',hp',rfl⟩:=a2 rfl;rw[hp] at hp';obtain rfl:=aSo hp';simp
      by_cases c3:c=3
      · subst c3
        rw[(hb3 pE).2.2];simp
      have c4:4≤c:=by omega
      rw[(hb4 (by simp [c4])).2.2];simp [c1,c2,c3,c4]
  rw[hww] at T4;refine⟨_,rfl,hK g4 w' _ (rE.w ?_)⟩;refine(rE.more (sd2:=[]) (r2:=[]) (U2:=[(i,pW.cells u x2 (t6 (t6 ts 6 1) 7 1)),(k3,.row e3 .str (ER (ok&&decide (c=3)) (y++s) l3) n3),(k4,.row e4 FZ (ES (ok&&decide (4≤c)) (y++s) l4) n4)]) T4 (fun j=>?_) (fun j hj=>?_)).slot' ⟨.inr ⟨rfl,rfl⟩,trivial⟩
  · simp only[qS,pZ]
    by_cases j1:i=j
    · subst j1
      rw[aSj rfl,aSl (Ne.symm hik4),aSl (Ne.symm hik3),aSj rfl]
    rw[aSl j1]
    by_cases j3:k3=j
    · subst j3
      rw[aSj rfl,aSl (Ne.symm hk34),aSj rfl]
    rw[aSl j3]
    by_cases j4:k4=j
    · subst j4
      rw[aSj rfl,aSj rfl]
    rw[aSl j4,aSl j4,aSl j3,aSl j1,aSl j1]
  simp only[qS,qB,aSx,aTK,or_false] at hj|-
  rcases hj with rfl|rfl|rfl|rfl<;>simp
theorem aKy {fop:Operand}{args:Array Operand}{tys:Array TypeId}(ho:o.op= .call ⟨.value fop,args,tys⟩) {ρ:Operand→pX}(hf:rF g w (ρ fop) (a.eval fop)) (hρ: ∀x∈args.toList,rF g w (ρ x) (a.eval x)) {base:Nat}{e:qJ}
    (hr:N0 T Γ base H (BJ T ρ args.toList tys.toList) (ρ fop)=some e) (hs: ∀p∈e.side,p) (hfr:xR g base e) (hlen:args.size=tys.size):rC P o a g w H e:=by
  unfold N0 at hr;split at hr
  · rename_i x k heq
    rw[heq] at hf;exact aKx hT hΓ hH ho hf.1 hρ hr hs hlen
  · rename_i f caps k heq
    unfold ZD at hr;split at hr
    · rename_i hfm
      rw[heq] at hf;unfold a9H at hr;split at hr
      · subst hfm
        refine aKs hT hΓ hH ho ?_ hρ hr hlen;rcases hf.1 with⟨h1,_⟩ |⟨_,vs,h2,h3⟩
        .cases h1
        rw[show vs=[] from h2] at h3
        simpa using h3
      cases hr
    exact aBh hT hΓ hH ho hf hρ (by rw[heq];exact hr) hs hfr hlen
  rename_i s _ _
  exact aBh hT hΓ hH ho hf hρ hr hs hfr hlen
theorem aBl: ∀{xs:List Operand}{ts:List TypeId},KA xs ts=true→xs.length=ts.length
  |[],[],_=>rfl
  |_::xs,_::ts,h=>by simp only[KA] at h;simp [aBl h]
  |[],_::_,h=>by cases h
  |_::_,[],h=>by cases h
theorem a0K {op:Op}(ho:o.op=op) {ρ:Operand→pX}(hρ: ∀x∈sH op,rF g w (ρ x) (a.eval x)) {base:Nat}{e:qJ}(hr:uA T Γ o.type ρ base H op=some e) (hs: ∀p∈e.side,p) (hf:xR g base e):rC P o a g w H e:=by
  unfold uA at hr;split at hr
  · rename_i x
    exact aAt hT hH (.inl ho) (hρ x (by simp [sH])) hr hf
  · rename_i x
    exact aAt hT hH (.inr ho) (hρ x (by simp [sH])) hr hf
  .exact aJw hT hH ho hr hf
  · rename_i t x
    exact aJx hT hH ho (hρ x (by simp [sH])) (fun _=>a0v hT hΓ hH (hρ x (by simp [sH]))) hr hf
  · rename_i t ps
    exact aJa hT hH ho (ρ:=ρ) (fun q hq=>hρ q.2 (by
      simp only[sH];generalize ps.toList=l at hq
      induction l with
      |nil=>cases hq
      |cons p l ih=>rcases aSx.1 hq with rfl|h<;>simp_all [sH.parts])) hr
  · rename_i t n ps
    exact aJF hT hH ho (ρ:=ρ) (fun q hq=>hρ q.2 (by
      simp only[sH];generalize ps.toList=l at hq
      induction l with
      |nil=>cases hq
      |cons p l ih=>rcases aSx.1 hq with rfl|h<;>simp_all [sH.parts])) hr hf
  · rename_i t x
    exact aJp hT hH ho (hρ x (by simp [sH])) hr hs
  · rename_i t x y
    exact aJE hT hH ho (hρ x (by simp [sH])) (a0v hT hΓ hH (hρ y (by simp [sH]))) hr hs hf
  · rename_i x
    exact aI4 hT hH ho (hρ x (by simp [sH])) hr
  · rename_i op t x y t'
    cases hw:SM op (rO T t) (ρ x) (ρ y) with
    | some r=>
      rw[hw] at hr;exact aIV hH ho (hρ x (by simp [sH])) (hρ y (by simp [sH])) (by rw[hw];exact hr)
    |none=>
    rw[hw] at hr;cases hb:SL op (ρ x) (ρ y) with
    | some r=>
      rw[hb] at hr;exact aIU hH ho (hρ x (by simp [sH])) (hρ y (by simp [sH])) (by rw[hb];exact hr) hs
    | none=>
      rw[hb] at hr;exact aKi hT hH ho (hρ x (by simp [sH])) (hρ y (by simp [sH])) hr
  · rename_i op t x
    exact aIW hH ho (hρ x (by simp [sH])) hr hs
  · rename_i t t' x
    cases hb:SO (rO T t) (rO T t') (ρ x) with
    | some r=>
      rw[hb] at hr;exact aIX hT hH ho (hρ x (by simp [sH])) (by rw[hb];exact hr)
    | none=>
      rw[hb] at hr;exact aKm hT hH ho (hρ x (by simp [sH])) hr
  · rename_i f first caps
    have hfi:first= #[]:=by
      cases hl:first.toList with
      |nil=>apply aTn.1;simpa using hl
      |cons x l=>rw[hl] at hr;cases hr
    subst hfi;exact aJe hT hH ho (ρ:=ρ) (fun x hx=>hρ x (by simpa[sH] using hx)) hr
  · rename_i t x lo hi
    refine aJq hT hH ho (ρ:=ρ) (hρ x (by simp [sH])) (fun y hy=>hρ y ?_) (fun y hy=>hρ y ?_) hr hs
    · cases lo with
      |none=>simp at hy
      |some l=>simp at hy;subst hy;simp [sH,sH.opt,qS]
    cases hi with
    |none=>simp at hy
    |some l=>simp at hy;subst hy;cases lo<;>simp [sH,sH.opt,qS]
  · rename_i t x f
    exact aI2 hT hH ho (hρ x (by simp [sH])) hr
  · rename_i t x f
    exact aI1 hT hH ho (hρ x (by simp [sH])) hr
  · rename_i t x ix
    exact aI6 hT hH ho (hρ x (by simp [sH])) (hρ ix (by simp [sH])) hr hs
  · rename_i t x ix
    exact aI5 hT hH ho (hρ x (by simp [sH])) (hρ ix (by simp [sH])) hr hs
  · rename_i x i
    exact aI3 hT hH ho (hρ x (by simp [sH])) hr hs
  · rename_i t r
    exact aJI hT hH ho hr hf
  · rename_i t x
    exact aJO hT hH ho (hρ x (by simp [sH])) hr hf
  · rename_i x b
    exact aJP hT hH ho (hρ x (by simp [sH])) hr
  · rename_i t x i ok
    exact aJL hT hH ho (hρ x (by simp [sH])) (hρ i (by simp [sH])) hr
  · rename_i t m k x
    exact aAG hT hH (.inl ho) (hρ m (by simp [sH])) (hρ k (by simp [sH])) (aAF (hρ x (by simp [sH]))) hr
  · rename_i t m k x
    exact aAG hT hH (.inr ho) (hρ m (by simp [sH])) (hρ k (by simp [sH])) (aAF (hρ x (by simp [sH]))) hr
  · rename_i c
    obtain⟨cal,args,tys⟩:=c;simp only at hr;unfold KE at hr;split at hr
    .exact aJd hT hH ho (ρ:=ρ) (fun x hx=>hρ x (by simpa[sH] using hx)) hr
    .exact aKn hT hH ho (ρ:=ρ) (fun x hx=>hρ x (by simpa[sH] using hx)) hr hs
    .exact aAg (mx:=true) hT hH ho (ρ:=ρ) (fun x hx=>hρ x (by simpa[sH] using hx)) hr
    .exact aAg (mx:=false) hT hH ho (ρ:=ρ) (fun x hx=>hρ x (by simpa[sH] using hx)) hr
    · rename_i f
      cases hsl:KA args.toList tys.toList with
      |false=>rw[hsl] at hr;cases hr
      | true=>
        rw[hsl] at hr;simp only[ZE] at hr;exact aKy hT hΓ hH ho (hρ f (by simp [sH])) (fun x hx=>hρ x (by simp [sH];right;simpa using hx)) hr hs hf (by simpa using aBl hT hΓ hH hsl)
    cases hr
  cases hr
end
def AO (g:Gh) (w:pN) (env:List (Nat×pX)) (tmps:Array pO):Prop:= ∀t,rF g w (lk env t) (tmps.getD t undef)
def zQ (B:Nat) (w:pN) (ds:List Deferred):Prop:=ds.Nodup/\∀d∈ds,∃D,d={target:= .collected D,args:= #[]}/\B<=D/\NG<=D/\w.heap[D]? =some (.deferred (some []))
theorem aBm (B:Nat) (w:pN):zQ B w []:=⟨List.nodup_nil,fun d hd=>by cases hd⟩
theorem zQ.same {B:Nat}{w w':pN}{ds:List Deferred}(h:zQ B w ds) (hb: ∀D:Nat,w.heap[D]? =some (Obj.deferred (some []))->w'.heap[D]? =some (Obj.deferred (some []))):zQ B w' ds:=
 ⟨h.1,fun d hd=>by obtain⟨D,h1,h2,h0,h3⟩:=h.2 d hd;exact⟨D,h1,h2,h0,hb D h3⟩⟩
def GA:Obj->Bool
 | .deferred _=>true
 | .loop _=>true
 |_=>false
theorem a0L {w:pN}{b:Nat}{ob:Obj}(hd:w.heap[b]? =some ob) (hm:GA ob=true) (o:Nat):w.cell? ⟨b,o,none⟩=none:=by
 unfold World.cell?;simp only[hd];cases ob<;>first|rfl|cases hm
theorem VD {g:Gh}{w:pN}{i:Nat}{blk:pW}(h:zZ g w i blk) {b o:Nat}(ho:s8 g i blk b o) {ob:Obj}(hd:w.heap[b]? =some ob) (hm:GA ob=true):False:=by
 have hrow: ∀{e:TypeId}{c n:Nat}{v:pO}{xs:pJ},w.ownsRow 0 e c v n xs->v.ownBlock=some b->False:=by
  intro e c n v xs hr hb;rcases hr.2 with⟨rfl,_⟩ |⟨g',cap,cur,rfl,_,h3,_⟩
  .cases hb
  simp only[Value.ownBlock,aSk] at hb;subst hb;rw[hd] at h3;cases h3;cases hm
 cases blk with
 |cells t x toks=>
  obtain⟨p,cs,hp,_,_,ht,_⟩:=h;obtain⟨q,hq,rfl,h1,h2⟩:=ho;rw[hp] at hq;obtain rfl:=aSo hq;have:=(ht.1 (o-p.2) pC).1;rw[a0L hd hm] at this;cases this
 |grow e c n=>
  obtain⟨v,xs,hv,hr,_⟩:=h;obtain⟨v',hv',hb⟩:=ho;rw[hv] at hv';obtain rfl:=aSo hv';exact hrow hr hb
 |row e t l n=>
  obtain⟨_,v,xs,hv,hr,_⟩:=h;obtain⟨v',hv',hb⟩:=ho;rw[hv] at hv';obtain rfl:=aSo hv';exact hrow hr hb
 |map k v l=>
  obtain⟨p,es,cl,hp,h0,h2,_⟩:=h;obtain⟨q,hq,h1⟩:=ho;rw[hp] at hq;obtain rfl:=aSo hq;rw[show b=p.1 from h1] at hd;rw[h2] at hd;cases hd;cases hm
 |iter s n=>
  obtain⟨p,hp,h0,h2,_⟩:=h;obtain⟨q,hq,h1⟩:=ho;rw[hp] at hq;obtain rfl:=aSo hq;rw[show b=p.1 from h1] at hd;rw[h2] at hd;cases hd;cases hm
 |dead=>exact ho.elim
theorem zQ.eff {B:Nat}{g g':Gh}{w w':pN}{H:s5}{e:qJ}{v:pO}{ds:List Deferred}(h:zQ B w ds) (hH:s9 g w H) (k:zN g w H e g' w' v):zQ B w' ds:=
 h.same fun D hD=>by
  rw[k.fr.blk D (aSO.1 hD).1 (fun o ⟨i,blk,_,h1,h2⟩=>VD (hH.blk i blk h1) h2 hD rfl)];exact hD
structure uP (B:Nat) (g:Gh) (w:pN) (s:St) (a:Act):Prop where
 env:AO g w s.env a.tmps
 heap:s9 g w s.H
 size:a.tmps.size=s.N
 nb: ∀i,s.nb<=i->g.J i=none/\∀n,g.cur i n=none
 def_:zQ B w a.defers
 np:s.np<=s.nb
theorem aKz (g:Gh) (w:pN) (v:pO):yK g w (XU v) v:=by
 unfold XU;split
 .exact vF _ _ _
 .exact wB _ _ _ _
 .rename_i s;have:=KS g w s.data.toList;rw[aTW] at this;exact this
 .exact rfl
 .exact .inr ⟨rfl,rfl⟩
 .exact .inr ⟨rfl,rfl⟩
 .exact .inr ⟨rfl,rfl⟩
 exact trivial
theorem A2 {g:Gh}{w:pN}{env:List (Nat×pX)}{a:Act}(h:AO g w env a.tmps) (x:Operand):rF g w (tU env x) (a.eval x):=by
 cases x with
 |tmp t=>exact h t
 |const v=>exact⟨aKz g w v,trivial⟩
 |func f=>exact⟨.inr ⟨rfl,[],rfl,rfl⟩,trivial⟩
 |global i=>exact⟨trivial,trivial⟩
theorem ND {g:Gh}{w:pN}{G:Bool}(hG:G=true): ∀{ss:List pX}{s:pX}{v:pO},s∈ss->(∀p∈yT G ss,p)->rF g w s v->rF g w (sM s) v
 |x::ss,s,v,hm,hn,hs=>by
  have hcase: ∀{s:pX},(∀p∈yT G [s],p)->rF g w s v->rF g w (sM s) v:=by
   intro s hn hs;obtain⟨d,k⟩:=s;cases d with
   |cond p d=>
    refine⟨hs.1.1 (hn (G=true->p=true) (by simp [yT]) hG),?_⟩;simp only[sM]
   |_=>exact hs
  have hsplit: ∀p,p∈yT G [x]->p∈yT G (x::ss):=by
   intro p hp;unfold yT at hp|-;split at hp
   .cases hp
   .rename_i heq;simp only[aS4] at heq;obtain⟨rfl,rfl⟩:=heq;rcases aSx.1 hp with h|h
    .exact h▸aSJ
    cases h
   rename_i h0 heq;simp only[aS4] at heq;obtain⟨_,rfl⟩:=heq;cases hp
  have hsplit2: ∀p,p∈yT G ss->p∈yT G (x::ss):=by
   intro p hp;generalize hL:yT G ss=L at hp;unfold yT;split
   .rename_i h;cases h
   .rename_i heq;simp only[aS4] at heq;obtain⟨_,rfl⟩:=heq;rw[hL];exact aSy _ hp
   rename_i heq;simp only[aS4] at heq;obtain⟨_,rfl⟩:=heq;rw[hL];exact hp
  rcases aSx.1 hm with rfl|hm
  .exact hcase (fun p hp=>hn p (hsplit p hp)) hs
  exact ND hG hm (fun p hp=>hn p (hsplit2 p hp)) hs
theorem VE {env:List (Nat×pX)}: ∀{xs:List Operand}{x:Operand},x∈xs->tU env x∈C9 env xs
 |y::xs,x,h=>by
  simp only[C9];rcases aSx.1 h with rfl|h
  .exact aSJ
  exact aSy _ (VE h)
theorem QE: ∀(ops:List Oper) (j:Nat),zW ops j=(ops[j]?).bind (·.dst)
 |[],j=>by simp [zW]
 |o::_,0=>rfl
 |_::r,j+1=>by simpa[zW] using QE r j
section
variable {P:Program}{g:Gh}{w:pN}{T:sI}{Γ:sV}(hT:wY P T) (hΓ:DH P Γ)
include hT hΓ
theorem aKA {ops:List Oper}{o:Oper}{a:Act}{env:List (Nat×pX)}(henv:AO g w env a.tmps) {j:Nat}{b:Bool}(hg:o.guard=some (j,b)) {G:Bool}(h:G1 env b (zW ops j)=some G):Region.wanted o (yielded ops.toArray a.tmps)=G:=by
 rw[QE] at h;unfold Region.wanted;rw[hg];simp only;cases hd:(ops[j]?).bind (·.dst) with
 |none=>rw[hd] at h;cases h
 |some t=>
  rw[hd] at h;simp only[G1] at h;have hy:yielded ops.toArray a.tmps j=match a.tmps[t]? with|some (.bool b)=>some b|_=>none:=by
   unfold yielded;have:(ops.toArray[j]?).bind (·.dst)=some t:=by simpa using hd
   rw[this];rfl
  have hv:=henv t;generalize hl:lk env t=s at h hv;unfold a9M at h;have hb: ∀c,a.tmps.getD t undef= .bool c->a.tmps[t]? =some (.bool c):=by
   intro c hc;rw[aST] at hc;cases hq:a.tmps[t]? with
   |none=>rw[hq] at hc;simp [undef] at hc
   |some v=>rw[hq] at hc;simp at hc;rw[hc]
  split at h
  .rename_i c k;simp only[aSk] at h;have:=hb _ (vE hv.1);rw[hy,this,<-h];cases c<;>cases b<;>rfl
  .rename_i p c k;simp only[aSk] at h;subst h;cases p with
   |true=>
    have:=hb _ (vE (hv.1.1 rfl));rw[hy,this];cases c<;>cases b<;>rfl
   |false=>
    have hu:=hv.1.2 rfl;have: ∀c,a.tmps[t]? ≠some (.bool c):=by
     intro c hc;rw[aST,hc] at hu;simp [undef] at hu
    rw[hy];cases hq:a.tmps[t]? with
    |none=>cases b<;>rfl
    |some v=>cases v<;>first|(exact absurd hq (this _)) |(cases b<;>rfl)
  cases h
theorem aKB {ops:List Oper}{o:Oper}{a:Act}{env:List (Nat×pX)}(henv:AO g w env a.tmps) {j:Nat}{b:Bool}(hg:o.guard=some (j,b)) (h:KF env b (zW ops j)=false):Region.wanted o (yielded ops.toArray a.tmps)=false:=by
 rw[QE] at h;unfold Region.wanted;rw[hg];simp only;cases hd:(ops[j]?).bind (·.dst) with
 |none=>rw[hd] at h;cases h
 |some t=>
  rw[hd] at h;simp only[KF] at h;have hy:yielded ops.toArray a.tmps j=match a.tmps[t]? with|some (.bool b)=>some b|_=>none:=by
   unfold yielded;have:(ops.toArray[j]?).bind (·.dst)=some t:=by simpa using hd
   rw[this];rfl
  have hv:=henv t;generalize hl:lk env t=s at h hv;have hb: ∀c,a.tmps.getD t undef= .bool c->a.tmps[t]? =some (.bool c):=by
   intro c hc;rw[aST] at hc;cases hq:a.tmps[t]? with
   |none=>rw[hq] at hc;simp [undef] at hc
   |some v=>rw[hq] at hc;simp at hc;rw[hc]
  have hun:a.tmps.getD t undef=undef->(yielded ops.toArray a.tmps j==some b)=false:=by
   intro hu;have: ∀c,a.tmps[t]? ≠some (.bool c):=by
    intro c hc;rw[aST,hc] at hu;simp [undef] at hu
   rw[hy];cases hq:a.tmps[t]? with
   |none=>cases b<;>rfl
   |some v=>cases v<;>first|(exact absurd hq (this _)) |(cases b<;>rfl)
  unfold a9N at h;split at h
  .rename_i c k;have:=hb _ (vE hv.1);rw[hy,this];cases c<;>cases b<;>first|rfl|cases h
  .rename_i p c k;cases p with
   |true=>
    have:=hb _ (vE (hv.1.1 rfl));rw[hy,this];cases c<;>cases b<;>first|rfl|cases h
   |false=>exact hun (hv.1.2 rfl)
  .rename_i p k;subst h;exact hun (hv.1.2 rfl)
  cases h
theorem QF {G:Bool}{p:Prop}: ∀{l:List Prop},p∈l->(G=true->p)∈PS G l
 |q::l,h=>by
  simp only[PS];rcases aSx.1 h with rfl|h
  .exact aSJ
  exact aSy _ (QF h)
theorem a0M {o:Oper}{a:Act}{H:s5}(hH:s9 g w H) {c x y:Operand}(hop:o.op= .pick c x y) {sc sx sy:pX}(hc:rF g w sc (a.eval c)) (hx:rF g w sx (a.eval x)) (hy:rF g w sy (a.eval y)) {e:qJ}(hr:PR sc sx sy=some e) (hs: ∀p∈e.side,p):rC P o a g w H e:=by
 intro K Q hK;unfold PR at hr;split at hr
 .rename_i z k;have hz:=vE hc.1;have run:(execOp a.eval o).run P w= .ok (.value (if z then a.eval x else a.eval y)) w:=by
   unfold execOp;rw[hop];simp [hz,asBool]
  have fin: ∀{v:Bool}{side:List Prop},(if z then a.eval x else a.eval y)= .bool v->e=⟨side,(.val .bool v,none),[],[]⟩->o.wp P a w K Q:=by
   intro v side hv he;subst he;refine rC.value (v:= .bool v) (g':=g) (w':=w) (H:=H) (by rw[run,hv]) (.pure hH (s:=(.val .bool v,none)) ⟨(vF g w v:yK g w (.val .bool v) (.bool v)),trivial⟩) K Q hK
  unfold a9O at hr;split at hr
  .rename_i m1 _ m2 _;simp only[aSk] at hr;refine fin (v:=cond z m1 m2) ?_ hr.symm;cases z
   .exact vE hy.1
   exact vE hx.1
  .rename_i p m1 _ m2 _;simp only[aSk] at hr;refine fin (v:=cond z m1 m2) ?_ hr.symm;cases z
   .exact vE hy.1
   exact vE (hx.1.1 (hs (true=true->p=true) (by rw[<-hr];simp) rfl))
  .rename_i m1 _ p m2 _;simp only[aSk] at hr;refine fin (v:=cond z m1 m2) ?_ hr.symm;cases z
   .exact vE (hy.1.1 (hs (false=false->p=true) (by rw[<-hr];simp) rfl))
   exact vE hx.1
  .rename_i q m1 _ p m2 _;simp only[aSk] at hr;refine fin (v:=cond z m1 m2) ?_ hr.symm;cases z
   .exact vE (hy.1.1 (hs (false=false->p=true) (by rw[<-hr];simp) rfl))
   exact vE (hx.1.1 (hs (true=true->q=true) (by rw[<-hr];simp) rfl))
  .rename_i m1 _ p _;simp only[aSk] at hr;have hz1:z=true:=hs _ (by rw[<-hr];simp);refine fin (v:=m1) ?_ hr.symm;rw[hz1];exact vE hx.1
  .rename_i q m1 _ p _;simp only[aSk] at hr;have hz1:z=true:=hs (z=true) (by rw[<-hr];simp);refine fin (v:=m1) ?_ hr.symm;rw[hz1];exact vE (hx.1.1 (hs (q=true) (by rw[<-hr];simp)))
  .rename_i p _ m2 _;simp only[aSk] at hr;have hz1:z=false:=hs _ (by rw[<-hr];simp);refine fin (v:=m2) ?_ hr.symm;rw[hz1];exact vE hy.1
  .rename_i p _ q m2 _;simp only[aSk] at hr;have hz1:z=false:=hs (z=false) (by rw[<-hr];simp);refine fin (v:=m2) ?_ hr.symm;rw[hz1];exact vE (hy.1.1 (hs (q=true) (by rw[<-hr];simp)))
  cases hr
 cases hr
omit hT hΓ in
theorem QG {np:Nat}{x:Option qJ}{e:qJ}(h:ZK np x=some e):x=some e/\(HP e.rds=true->HY np e.upd=true):=by
 cases x with
 |none=>cases h
 |some q=>
  simp only[ZK] at h;cases hq:HP q.rds with
  |false=>
   rw[hq] at h;cases h;exact⟨rfl,fun h=>by rw[hq] at h;cases h⟩
  |true=>
   rw[hq] at h;simp only[a9R] at h;split at h
   .rename_i hc;cases h;exact⟨rfl,fun _=>hc⟩
   cases h
omit hT hΓ in
theorem aBn {np:Nat}{H:s5}: ∀{U:List (Nat×pW)},HY np U=true->∀{i:Nat}{u:Ty}{y:u.den}{us:pH},i<np->pZ (qS U H) i=some (.cells u y us)->pZ H i=some (.cells u y us)
 |[],_,i,u,y,us,_,h=>h
 |(j,b)::U,h,i,u,y,us,hi,hg=>by
  simp only[qS,pZ] at hg;split at hg
  .rename_i e;subst e;simp only[aSk] at hg;subst hg;simp only[HY] at h;split at h
   .omega
   cases h
  refine aBn ?_ hi hg;unfold HY at h;split at h
  .rename_i heq;cases heq
  .rename_i heq;cases heq;split at h
   .exact h
   cases h
  rename_i heq;cases heq;exact h
theorem aBo {ops:List Oper}{o:Oper}{a:Act}{s:St}{e:qJ}(henv:AO g w s.env a.tmps) (hH:s9 g w s.H) (hr:zM T Γ ops o s=some e) (hs: ∀p∈e.side,p) (hf:xR g s.nb e) {K:Act->pN->Prop}{Q:Exit->Act->pN->Prop}
  (hK: ∀g' w' v,zN g w s.H e g' w' v->K (a.put o.dst v) w'):
  if Region.wanted o (yielded ops.toArray a.tmps) then o.wp P a w K Q else K (a.put o.dst undef) w:=by
 replace hr:=(QG hr).1;unfold N6 at hr;cases hgd:o.guard with
 |none=>
  rw[hgd] at hr;simp only at hr;have hw:Region.wanted o (yielded ops.toArray a.tmps)=true:=by unfold Region.wanted;rw[hgd]
  rw[aSj hw];cases hop:o.op with
  |pick c x y=>
   rw[hop] at hr;simp only[N5] at hr;exact a0M hT hΓ hH hop (A2 henv c) (A2 henv x) (A2 henv y) hr hs K Q hK
  |_=>
   rw[hop] at hr;simp only[N5] at hr;rw[<-hop] at hr;generalize hpl:uA T Γ o.type (fun x=>sM (tU s.env x)) s.nb s.H o.op=op at hr;cases op with
   |none=>cases hr
   |some e0=>
    simp only[N3,aSk] at hr;subst hr;refine a0K hT hΓ hH rfl (ρ:=fun x=>sM (tU s.env x)) (fun x hx=>?_) hpl (fun p hp=>hs p (wK.2 (.inr hp))) hf K Q (fun g' w' v h=>hK g' w' v ⟨h.le,h.slot,h.heap,h.fr,h.perm,h.gho,h.ty⟩);exact ND rfl (VE hx) (fun p hp=>hs p (wK.2 (.inl hp))) (A2 henv x)
 |some jb=>
  obtain⟨j,b⟩:=jb;rw[hgd] at hr;simp only at hr;cases hsk:Γ (UB j b) with
  |some sg=>
   rw[hsk] at hr;simp only[PT] at hr;cases hdf:a9P o.op with
   |true=>rw[hdf] at hr;cases hr
   |false=>
   rw[hdf] at hr;simp only[a9Q,aSk] at hr;subst hr;have hup:KF s.env b (zW ops j)=false:=hs _ aSJ;rw[aKB hT hΓ henv hgd hup,aSl pD];exact hK g w undef (zN.pure hH ⟨⟨fun hc=>(by cases hc),fun _=>rfl⟩,trivial⟩)
  |none=>
  rw[hsk] at hr;simp only[PT] at hr;generalize hG:G1 s.env b (zW ops j)=oG at hr;cases oG with
  |none=>cases hr
  |some G=>
   have hw:=aKA hT hΓ henv hgd hG;rw[hw];by_cases hpk: ∃c x y,o.op= .pick c x y
   .obtain⟨c,x,y,hop⟩:=hpk;rw[hop] at hr;simp only[N4] at hr;generalize hpl:PR (sM (tU s.env c)) (tU s.env x) (tU s.env y)=op at hr;cases op with
    |none=>cases hr
    |some e0=>
     unfold HW at hr;split at hr
     .rename_i side d k rds heq;simp only[aSk] at hr heq;subst hr;subst heq;by_cases hGt:G=true
      .rw[aSj hGt];refine a0M hT hΓ hH hop (ND hGt (ss:=[tU s.env c]) pE (fun p hp=>hs p (wK.2 (.inl hp))) (A2 henv c)) (A2 henv x) (A2 henv y) hpl (fun p hp=>hs (G=true->p) (wK.2 (.inr (QF hT hΓ hp))) hGt) K Q (fun g' w' v h=>hK g' w' v ⟨h.le,⟨⟨fun _=>h.slot.1,fun hc=>by rw[hGt] at hc;cases hc⟩,trivial⟩,h.heap,h.fr,h.perm,h.gho,h.ty⟩)
      rw[aSl hGt];exact hK g w undef (zN.pure hH ⟨⟨fun hc=>absurd hc hGt,fun _=>rfl⟩,trivial⟩)
     .rename_i side sl u us rds heq;simp only[aSk] at hr heq;subst hr;subst heq;have hGt:G=true:=hs _ aSJ;rw[aSj hGt];exact a0M hT hΓ hH hop (ND hGt (ss:=[tU s.env c]) pE (fun p hp=>hs p (aSy _ (wK.2 (.inl hp)))) (A2 henv c)) (A2 henv x) (A2 henv y) hpl (fun p hp=>hs (G=true->p) (aSy _ (wK.2 (.inr (QF hT hΓ hp)))) hGt) K Q (fun g' w' v h=>hK g' w' v ⟨h.le,h.slot,h.heap,h.fr,h.perm,h.gho,h.ty⟩)
     cases hr
   have e1:N4 T Γ o s (some G) o.op=HW G (yT G (C9 s.env (sH o.op))) (uA T Γ o.type (fun x=>sM (tU s.env x)) s.nb s.H o.op):=by
    cases ho:o.op<;>first|rfl|(exact absurd ⟨_,_,_,ho⟩ hpk)
   rw[e1] at hr;generalize hpl:uA T Γ o.type (fun x=>sM (tU s.env x)) s.nb s.H o.op=op at hr;cases op with
   |none=>cases hr
   |some e0=>
    unfold HW at hr;split at hr
    .rename_i side d k rds heq;simp only[aSk] at hr heq;subst hr;subst heq;by_cases hGt:G=true
     .rw[aSj hGt];refine a0K hT hΓ hH rfl (ρ:=fun x=>sM (tU s.env x)) (fun x hx=>?_) hpl (fun p hp=>hs (G=true->p) (wK.2 (.inr (QF hT hΓ hp))) hGt) (fun i hi=>by cases hi) K Q (fun g' w' v h=>hK g' w' v ⟨h.le,⟨⟨fun _=>h.slot.1,fun hc=>by rw[hGt] at hc;cases hc⟩,trivial⟩,h.heap,h.fr,h.perm,h.gho,h.ty⟩);exact ND hGt (VE hx) (fun p hp=>hs p (wK.2 (.inl hp))) (A2 henv x)
     rw[aSl hGt];exact hK g w undef (zN.pure hH ⟨⟨fun hc=>absurd hc hGt,fun _=>rfl⟩,trivial⟩)
    .rename_i side sl u us rds heq;simp only[aSk] at hr heq;subst hr;subst heq;have hGt:G=true:=hs _ aSJ;rw[aSj hGt];refine a0K hT hΓ hH rfl (ρ:=fun x=>sM (tU s.env x)) (fun x hx=>?_) hpl (fun p hp=>hs (G=true->p) (aSy _ (wK.2 (.inr (QF hT hΓ hp)))) hGt) hf K Q (fun g' w' v h=>hK g' w' v ⟨h.le,h.slot,h.heap,h.fr,h.perm,h.gho,h.ty⟩);exact ND hGt (VE hx) (fun p hp=>hs p (aSy _ (wK.2 (.inl hp)))) (A2 henv x)
    cases hr
end
structure sX (A:Nat->Nat->Prop) (L:List pW) (g0:Gh) (w0:pN) (g:Gh) (w:pN) (H:s5):Prop where
 shut: ∀b o,g0.S b o->g.S b o/\w.cell? ⟨b,o,none⟩=w0.cell? ⟨b,o,none⟩
 fr:Fr A w0 w g0.S g.S
 perm: ∀i blk b o,pZ H i=some blk->s8 g i blk b o->w0.heap.size<=b\/A b o
 J: ∀i p,i<L.length->g0.J i=some p->g.J i=some p
 live: ∀i,i<L.length->(∃p,g.J i=some p)\/(∃n v,g.cur i n=some v)
 ty: ∀i u y us,i<L.length->pZ H i=some (.cells u y us)->∃x ts,L[i]? =some (.cells u x ts)
 cur: ∀i n v,i<L.length->g0.cur i n=some v->g.cur i n=some v
def sX.eff {A:Nat->Nat->Prop}{L:List pW}{g0 g g':Gh}{w0 w w':pN}{H:s5}{e:qJ}{v:pO}(h:sX A L g0 w0 g w H) (k:zN g w H e g' w' v) (hc:HP e.rds=true->HY L.length e.upd=true):sX A L g0 w0 g' w' (qS e.upd H):=by
 have hown: ∀b o,sK g H (qB e.upd) b o->w0.heap.size<=b\/A b o:=fun b o ⟨i,blk,_,h2,h3⟩=>h.perm i blk b o h2 h3;refine⟨fun b o hs=>?_,h.fr.trans k.fr hown,fun i blk b o hg ho=>?_,fun i p hi hp=>k.le.J _ _ (h.J i p hi hp),fun i hi=>?_,fun i u y us hi hg=>?_,fun i n u hi hu=>k.le.cur _ _ _ (h.cur i n u hi hu)⟩
 .obtain⟨h1,h2⟩:=h.shut b o hs;exact⟨k.le.S b o h1,(k.le.cell b o h1).trans h2⟩
 .by_cases hi:i∈qB e.upd
  .rcases k.perm i blk b o hi hg ho with h1|h1
   .exact .inl (aTh h.fr.size h1)
   exact hown b o h1
  exact h.perm i blk b o ((A0 hi).symm.trans hg) ((wW (k.gho i hi).1 (k.gho i hi).2).1 ho)
 .rcases h.live i hi with⟨p,hp⟩ |⟨n,u,hu⟩
  .exact .inl ⟨p,k.le.J _ _ hp⟩
  exact .inr ⟨n,u,k.le.cur _ _ _ hu⟩
 cases hre:HP e.rds with
 |true=>exact h.ty i u y us hi (aBn (hc hre) hi hg)
 |false=>
  rcases k.ty hre i u y us hg with⟨x,ts,h1⟩ |⟨h1,h2⟩
  .exact h.ty i u x ts hi h1
  rcases h.live i hi with⟨p,hp⟩ |⟨n,u,hu⟩
  .rw[h1] at hp;cases hp
  rw[h2] at hu;cases hu
def zR:pH->Nat->pL
 |[],_=>none
 |(n,o)::r,k=>if n=k then some o else zR r k
def u6 (g:Gh) (np:Nat) (m:pH):Gh:=
 ⟨g.S,fun i=>if i<np then g.J i else(zR m i).bind g.J,fun i n=>if i<np then g.cur i n else(zR m i).bind fun o=>g.cur o n⟩
def VF {n o:Nat}: ∀{m:pH},N7 n o m=false->∀n' o',(n',o')∈m->n'≠n/\o'≠o
 |[],_,_,_,h=>by cases h
 |(a,b)::m,h,n',o',hm=>by
  simp only[N7,aTL,aS2] at h;rcases aSx.1 hm with h1|h1
  .cases h1;exact h.1
  exact VF h.2 n' o' h1
def a0N {np:Nat}: ∀{m:pH},wV np m=true->∀{n o:Nat},(n,o)∈m->zR m n=some o/\(n<np->o=n)
 |[],_,_,_,h=>by cases h
 |(a,b)::m,hk,n,o,h=>by
  simp only[wV,aSB,aSV,aTP,aSs] at hk;obtain⟨⟨h1,h2⟩,h3⟩:=hk;simp only[zR];rcases aSx.1 h with h4|h4
  .cases h4;rw[aSj rfl];exact⟨rfl,fun h5=>by rcases h1 with h1|h1<;>omega⟩
  have h5:=VF h2 n o h4;rw[aSl (Ne.symm h5.1)];exact a0N h3 h4
def AP: ∀{m:pH}{k j:Nat},w5 m k=some j->(j,k)∈m
 |[],_,_,h=>by cases h
 |(a,b)::m,k,j,h=>by
  simp only[w5] at h;split at h
  .rename_i e;subst e;simp only[aSk] at h;subst h;exact aSJ
  exact aSy _ (AP h)
def yX {g:Gh}{np:Nat}{m:pH}(hk:wV np m=true) {n o:Nat}(h:(n,o)∈m):(u6 g np m).J n=g.J o/\(u6 g np m).cur n=g.cur o:=by
 obtain⟨h1,h2⟩:=a0N hk h;refine⟨?_,?_⟩
 .show (if n<np then g.J n else(zR m n).bind g.J)=_;by_cases hn:n<np
  .rw[aSj hn,h2 hn]
  rw[aSl hn,h1];rfl
 funext q;show (if n<np then g.cur n q else(zR m n).bind fun o=>g.cur o q)=_;by_cases hn:n<np
 .rw[aSj hn,h2 hn]
 rw[aSl hn,h1];rfl
def a0O {g:Gh}{np:Nat}{m:pH}(hk:wV np m=true): ∀(l l':pH) (vs:pJ),yA g l vs->CB m l=some l'->yA (u6 g np m) l' vs
 |[],l',vs,h,hr=>by simp only[CB,aSk] at hr;subst hr;exact h
 |(i,o)::l,l',vs,⟨p,vs',h1,h2,h3⟩,hr=>by
  simp only[CB] at hr;cases hi:w5 m i with
  |none=>rw[hi] at hr;cases hr2:CB m l<;>rw[hr2] at hr<;>cases hr
  |some j=>
   rw[hi] at hr;cases hr2:CB m l with
   |none=>rw[hr2] at hr;cases hr
   |some l2=>
    rw[hr2] at hr;simp only[CB.renCons,aSk] at hr;subst hr;exact⟨p,vs',by rw[(yX hk (AP hi)).1];exact h1,h2,a0O hk l l2 vs' h3 hr2⟩
def aKC {m:pH}{u t:Ty}{x y:t.den}{o:Nat}{l:List u.den}(h:yU m t x=some y) (hg:qT (.list u) t x o=some l):qT (.list u) t y o=some l:=
 a0y (yU m) (fun _ _ _=>rfl) (fun _ _=>rfl) h hg
def aKD {c n3 n4:Nat}{a b d:pL}{y:Nat×Nat×(Nat×Nat)×(Nat×Nat)}(h:ZL c n3 n4 a b d=some y): ∃i k3 k4,a=some i/\b=some k3/\d=some k4/\y=(c,i,(k3,n3),(k4,n4)):=by
 unfold ZL at h;split at h
 .exact⟨_,_,_,rfl,rfl,rfl,(aSo h).symm⟩
 cases h
def QH {g:Gh}{w:pN}{np:Nat}{m:pH}(hk:wV np m=true): ∀{t:Ty}{x y:t.den}{cs:pJ},Rd g w t x cs->yU m t x=some y->Rd (u6 g np m) w t y cs
 | .bool,_,_,_,r,h=>by cases h;exact r
 | .int _,_,_,_,r,h=>by cases h;exact r
 | .str,_,_,_,r,h=>by cases h;exact r
 | .unit,_,_,_,r,h=>by cases h;exact r
 | .list t,x,y,_,r,h=>by
  simp only[yU] at h;split at h
  .rename_i hp;cases h;exact vU (g:=g) (g':=u6 g np m) rfl (t:= .list t) (by simpa[Ty.pure] using hp) r
  .cases h
 | .ref,none,y,_,r,h=>by cases h;exact r
 | .ref,some (i,o),y,_,⟨p,h1,h2⟩,h=>by
  simp only[yU,UH] at h;cases hi:w5 m i with
  |none=>rw[hi] at h;cases h
  |some j=>
   rw[hi] at h;cases h;exact⟨p,by rw[(yX hk (AP hi)).1];exact h1,h2⟩
 | .clo,none,y,_,r,h=>by cases h;exact r
 | .clo,some (f,l),y,_,⟨vs,h1,h2⟩,h=>by
  simp only[yU,a9V] at h;cases hi:CB m l with
  |none=>rw[hi] at h;cases h
  |some l'=>
   rw[hi] at h;cases h;exact⟨vs,a0O hk l l' vs h1 hi,h2⟩
 | .fn,_,_,_,r,h=>by cases h;exact r
 | .rl _ _,none,y,_,r,h=>by cases h;exact r
 | .rl _ _,some (k,n),y,_,⟨v,h1,h2⟩,h=>by
  simp only[yU,a9X] at h;cases hi:w5 m k with
  |none=>rw[hi] at h;cases h
  |some j=>
   rw[hi] at h;cases h;exact⟨v,by rw[(yX hk (AP hi)).2];exact h1,h2⟩
 | .mref,none,y,_,r,h=>by cases h;exact r
 | .mref,some (i,o),y,_,⟨p,h1,h2⟩,h=>by
  simp only[yU,UH] at h;cases hi:w5 m i with
  |none=>rw[hi] at h;cases h
  |some j=>
   rw[hi] at h;cases h;exact⟨p,by rw[(yX hk (AP hi)).1];exact h1,h2⟩
 | .ap,(c,i,(k3,n3),(k4,n4)),y,_,r,h=>by
  simp only[yU,a9Y] at h;obtain⟨i',k3',k4',e1,e2,e3,rfl⟩:=aKD h;exact a0z (g:=g) (g':=u6 g np m) (fun _ _ h=>⟨h,rfl⟩) (fun p hp=>⟨p,by rw[(yX hk (AP e1)).1];exact hp,rfl,rfl⟩) (fun v hv=>by rw[(yX hk (AP e2)).2];exact hv) (fun v hv=>by rw[(yX hk (AP e3)).2];exact hv) r
 | .mp,none,y,_,r,h=>by cases h;exact r
 | .mp,some i,y,_,⟨p,h1,h2⟩,h=>by
  simp only[yU,a9W] at h;cases hi:w5 m i with
  |none=>rw[hi] at h;cases h
  |some j=>
   rw[hi] at h;cases h;exact⟨p,by rw[(yX hk (AP hi)).1];exact h1,h2⟩
 | .pair a b,x,y,_,⟨c1,c2,e,r1,r2⟩,h=>by
  simp only[yU] at h;obtain⟨h1,h2⟩:=a0x h;refine⟨c1,c2,e,?_,?_⟩
  .split at h1
   .rename_i hp;exact(aSo h1)▸vU (g:=g) (g':=u6 g np m) rfl hp r1
   exact QH hk r1 h1
  split at h2
  .rename_i hp;exact(aSo h2)▸vU (g:=g) (g':=u6 g np m) rfl hp r2
  exact QH hk r2 h2
def VG {g:Gh}{w:pN}{np:Nat}{m:pH}(hk:wV np m=true) {s:pX}{v:pO}(h:rF g w s v):rF (u6 g np m) w (zX m s) v:=by
 have caps: ∀(l l':pH) (vs:pJ),yA g l vs->CB m l=some l'->yA (u6 g np m) l' vs:=a0O hk;unfold zX;split
 .rename_i k n k';cases hi:w5 m k with
  |none=>exact⟨trivial,trivial⟩
  |some j=>
   obtain⟨h1,h2⟩:=h.1;exact⟨⟨by rw[(yX hk (AP hi)).2];exact h1,h2⟩,trivial⟩
 .obtain h1:=h.1;refine⟨?_,trivial⟩;rcases h1 with⟨h1,_⟩ |⟨_,h2⟩
  .cases h1
  exact .inr ⟨rfl,h2⟩
 .rename_i p k;obtain⟨i,o⟩:=p;simp only[a9T];cases hi:w5 m i with
  |none=>exact⟨trivial,trivial⟩
  |some j=>
   simp only[Option.map_some,zX.refSlot];obtain⟨q,hq,hv⟩:=x7 h.1;exact⟨.inr ⟨rfl,q,by rw[(yX hk (AP hi)).1];exact hq,by rw[hv]⟩,trivial⟩
 .rename_i f l k;cases hl:CB m l with
  |none=>exact⟨trivial,trivial⟩
  |some l'=>
   simp only[zX.cloSlot];rcases h.1 with⟨h1,_⟩ |⟨_,vs,h2,h3⟩
   .cases h1
   exact⟨.inr ⟨rfl,vs,caps l l' vs h2 hl,h3⟩,trivial⟩
 .rename_i i k;cases hi:w5 m i with
  |none=>exact⟨trivial,trivial⟩
  |some j=>
   simp only[zX.mpSlot];rcases h.1 with⟨h1,_⟩ |⟨_,p,h2,h3⟩
   .cases h1
   exact⟨.inr ⟨rfl,p,by rw[(yX hk (AP hi)).1];exact h2,h3⟩,trivial⟩
 .rename_i t x k _ _ _ _;split
  .rename_i hp;have hv:sW (u6 g np m) w t x v:=h.1.imp (fun⟨a,cs,e,q⟩=>⟨a,cs,e,vU (g:=g) (g':=u6 g np m) rfl hp q⟩) (fun⟨a,q⟩=>⟨a,vU (g:=g) (g':=u6 g np m) rfl hp q⟩);refine⟨hv,?_⟩;replace h:=aAI h;generalize htk:EK t k=k' at h|-;cases k' with
   |none=>trivial
   |some k=>
    simp only[a9U];cases hj:w5 m k with
    |none=>trivial
    |some j=>
     have h2:=h.2;cases t with
     |list u=>
      show (u6 g np m).cur j _=_;rw[(yX hk (AP hj)).2];exact h2
     |pair a b=>cases htk
     |_=>exact h2.elim
  cases hy:yU m t x with
  |none=>exact⟨trivial,trivial⟩
  |some y=>
   simp only[zX.valSlot];exact⟨h.1.imp (fun⟨a,cs,e,q⟩=>⟨a,cs,e,QH hk q hy⟩) (fun⟨a,q⟩=>⟨a,QH hk q hy⟩),trivial⟩
 .rename_i t x k;split
  .rename_i hp;obtain⟨b,o,cs,h1,h2,h3,h4⟩:=h.1;exact⟨⟨b,o,cs,h1,h2,h3,vU (g:=g) (g':=u6 g np m) rfl hp h4⟩,trivial⟩
  exact⟨trivial,trivial⟩
 .exact⟨h.1,trivial⟩
 exact⟨trivial,trivial⟩
def aBp {q j:Nat}{x:Nat×Nat}: ∀{r:pH},x∈UI q j r->x=(q,j)\/x∈r
 |[],h=> .inl (aSC.1 h)
 |(a,b)::r,h=>by
  simp only[UI] at h;split at h
  .exact aSx.1 h
  rcases aSx.1 h with h|h
  .exact .inr (by rw[h];exact aSJ)
  exact(aBp h).imp id (aSy _)
def VH {m:pH}: ∀{ts:pH}{q j:Nat},(q,j)∈KJ m ts->∃k,(q,k)∈ts/\w5 m k=some j
 |[],_,_,h=>by cases h
 |(a,b)::ts,q,j,h=>by
  simp only[KJ] at h;cases hb:w5 m b with
  |none=>
   rw[hb] at h;obtain⟨k,h1,h2⟩:=VH h;exact⟨k,aSy _ h1,h2⟩
  |some j'=>
   rw[hb] at h;simp only[KJ.renTok1] at h;rcases aBp h with h1|h1
   .cases h1;exact⟨b,aSJ,hb⟩
   obtain⟨k,h1,h2⟩:=VH h1;exact⟨k,aSy _ h1,h2⟩
def KZ {g:Gh}{w:pN}{np:Nat}{m:pH}(hk:wV np m=true) {n o:Nat}(hm:(n,o)∈m) {b:Option pW}(h: ∀c,b=some c->zZ g w o c):
  zZ (u6 g np m) w n (yV m b)/\∀bb oo,s8 (u6 g np m) n (yV m b) bb oo->∃c,b=some c/\s8 g o c bb oo:=by
 obtain⟨hJ,hcur⟩:=yX (g:=g) hk hm;unfold yV;split
 .rename_i t x toks;split
  .rename_i hp;obtain⟨p,cs,h1,h2,h3,h4,h5,h6⟩:=h _ rfl;refine⟨⟨p,cs,by rw[hJ];exact h1,vU (g:=g) (g':=u6 g np m) rfl hp h2,h3,h4,h5,fun q j hmem=>?_⟩,fun bb oo ⟨pp,e1,e2⟩=>⟨_,rfl,pp,by rw[hJ] at e1;exact e1,e2⟩⟩;obtain⟨k,k1,k2⟩:=VH hmem;obtain⟨u,l,v,g1,g2,g3⟩:=h6 q k k1;exact⟨u,l,v,g1,g2,by rw[(yX hk (AP k2)).2];exact g3⟩
  cases hy:yU m t x with
  |none=>exact⟨trivial,fun _ _ h=>h.elim⟩
  |some y=>
   obtain⟨p,cs,h1,h2,h3,h4,h5,h6⟩:=h _ rfl;simp only[ZM];refine⟨⟨p,cs,by rw[hJ];exact h1,QH hk h2 hy,h3,h4,h5,fun q j hmem=>?_⟩,fun bb oo ⟨pp,e1,e2⟩=>⟨_,rfl,pp,by rw[hJ] at e1;exact e1,e2⟩⟩;obtain⟨k,k1,k2⟩:=VH hmem;obtain⟨u,l,v,g1,g2,g3⟩:=h6 q k k1;exact⟨u,l,v,aKC hy g1,g2,by rw[(yX hk (AP k2)).2];exact g3⟩
 .rename_i e c k;obtain⟨v,xs,h1,h2,h3,h4⟩:=h _ rfl;exact⟨⟨v,xs,by rw[hcur];exact h1,h2,fun q hq=>by rw[hcur];exact h3 q hq,h4⟩,fun bb oo ⟨v',e1,e2⟩=>⟨_,rfl,v',by rw[hcur] at e1;exact e1,e2⟩⟩
 .rename_i e t l n;split
  .rename_i hp;obtain⟨h0,v,xs,h1,h2,h5,h3,h4⟩:=h _ rfl;exact⟨⟨h0,v,xs,by rw[hcur];exact h1,h2,CC (fun _ _ h=>vU (g:=g) (g':=u6 g np m) rfl hp h) h5,fun q hq=>by rw[hcur];exact h3 q hq,h4⟩,fun bb oo ⟨v',e1,e2⟩=>⟨_,rfl,v',by rw[hcur] at e1;exact e1,e2⟩⟩
  exact⟨trivial,fun _ _ h=>h.elim⟩
 .rename_i k v l;split
  .rename_i hp;rw[aSB] at hp;obtain⟨p,es,cl,h1,h0,h2,h3,h4⟩:=h _ rfl;exact⟨⟨p,es,cl,by rw[hJ];exact h1,h0,h2,Q2 (g:=g) (g':=u6 g np m) rfl hp.1 hp.2 h3,h4⟩,fun bb oo ⟨pp,e1,e2⟩=>⟨_,rfl,pp,by rw[hJ] at e1;exact e1,e2⟩⟩
  exact⟨trivial,fun _ _ h=>h.elim⟩
 .obtain⟨p,h1,h0,h2,h4⟩:=h _ rfl;exact⟨⟨p,by rw[hJ];exact h1,h0,h2,h4⟩,fun bb oo ⟨pp,e1,e2⟩=>⟨_,rfl,pp,by rw[hJ] at e1;exact e1,e2⟩⟩
 exact⟨trivial,fun _ _ h=>h.elim⟩
def IA {m:pH}{H:s5}: ∀{l:pH}{n:Nat}{b:pW},pZ (UJ m H l) n=some b->∃o,(n,o)∈l/\b=yV m (pZ H o)
 |[],_,_,h=>by cases h
 |(a,c)::l,n,b,h=>by
  simp only[UJ,pZ] at h;split at h
  .rename_i e;subst e;exact⟨c,aSJ,(aSo h).symm⟩
  obtain⟨o,h1,h2⟩:=IA h;exact⟨o,aSy _ h1,h2⟩
def aBq {m:pH}{env:List (Nat×pX)}: ∀(l:pM) (t:Nat),lk (PW m env l) t=(.any,none)\/lk (PW m env l) t=zX m (lk env t)
 |[],_=> .inl rfl
 |a::l,t=>by
  simp only[PW,lk];split
  .rename_i e;subst e;exact .inr rfl
  exact aBq l t
def aBr: ∀{m:pH}{n o:Nat},(n,o)∈m->n<UK m
 |(a,b)::m,n,o,h=>by
  simp only[UK];rcases aSx.1 h with h1|h1
  .cases h1;omega
  have:=aBr h1;omega
def a0P: ∀{m:pH}{n o:Nat},zR m n=some o->(n,o)∈m
 |[],_,_,h=>by cases h
 |(a,b)::m,n,o,h=>by
  simp only[zR] at h;split at h
  .rename_i e;subst e;simp only[aSk] at h;subst h;exact aSJ
  exact aSy _ (a0P h)
def a0Q {B:Nat}{A:Nat->Nat->Prop}{L:List pW}{g0 g:Gh}{w0 w:pN}{s:St}{a:Act}(h:uP B g w s a) (hg:sX A L g0 w0 g w s.H) (hnp:s.np=L.length) (k:w4) (hk:wV s.np k.ids=true):
  uP B (u6 g s.np k.ids) w (s.keep k) a/\sX A L g0 w0 (u6 g s.np k.ids) w (s.keep k).H/\(s.keep k).np=L.length/\(s.keep k).N=s.N:=by
 unfold St.keep;rw[hk];refine⟨⟨fun t=>?_,⟨fun i b hb=>?_,fun i j bi bj b o hij h1 h2 o1 o2=>?_,h.heap.sl,h.heap.tab.1,fun i b bb oo hb ho=>by
   obtain⟨o,h1,rfl⟩:=IA hb;obtain⟨c1,e1,o1'⟩:=(KZ hk h1 fun c hc=>h.heap.blk o c hc).2 bb oo ho;exact h.heap.tab.2 o c1 bb oo e1 o1'⟩,h.size,fun i hi=>?_,h.def_,Nat.le_max_left _ _⟩,⟨hg.shut,hg.fr,fun i blk b o hb ho=>?_,fun i p hi hp=>?_,fun i hi=>?_,fun i u y us hi hb=>?_,fun i n u hi hu=>(by
   show (if i<s.np then g.cur i n else _)=_;rw[aSj pC];exact hg.cur i n u hi hu)⟩,hnp,rfl⟩
 .rcases aBq (m:=k.ids) (env:=s.env) k.slots t with e|e
  .exact⟨by rw[show lk (PX s k true).env t=_ from e];trivial,by rw[show lk (PX s k true).env t=_ from e];trivial⟩
  have:=VG hk (h.env t);rw[show lk (PX s k true).env t=_ from e];exact this
 .obtain⟨o,h1,rfl⟩:=IA hb;exact(KZ hk h1 fun c hc=>h.heap.blk o c hc).1
 .obtain⟨p,k1,rfl⟩:=IA h1;obtain⟨q,k2,rfl⟩:=IA h2;obtain⟨c1,e1,o1'⟩:=(KZ hk k1 fun c hc=>h.heap.blk p c hc).2 b o o1;obtain⟨c2,e2,o2'⟩:=(KZ hk k2 fun c hc=>h.heap.blk q c hc).2 b o o2;refine h.heap.dis p q c1 c2 b o (fun e=>?_) e1 e2 o1' o2';subst e;have inj: ∀{m:pH},wV s.np m=true->∀{i j o:Nat},(i,o)∈m->(j,o)∈m->i=j:=by
   intro m
   induction m with
   |nil=>intro _ _ _ _ h;cases h
   |cons z m ih=>
    obtain⟨z1,z2⟩:=z;intro hk i j o h1 h2;simp only[wV,aSB,aSV] at hk;rcases aSx.1 h1 with h1|h1<;>rcases aSx.1 h2 with h2|h2
    .cases h1;cases h2;rfl
    .cases h1;exact absurd rfl (VF hk.1.2 _ _ h2).2
    .cases h2;exact absurd rfl (VF hk.1.2 _ _ h1).2
    exact ih hk.2 h1 h2
  exact hij (inj hk k1 k2)
 .have hi': ¬i<s.np:=by have:=aTh (Nat.le_max_left _ _) hi;omega
  have hold:zR k.ids i=none:=by
   cases ho:zR k.ids i with
   |none=>rfl
   |some o=>
    have:=aBr (a0P ho);have:=aTh (Nat.le_max_right _ _) hi;omega
  refine⟨?_,fun n=>?_⟩
  .show (if i<s.np then g.J i else(zR k.ids i).bind g.J)=none;rw[aSl hi',hold];rfl
  show (if i<s.np then g.cur i n else(zR k.ids i).bind fun o=>g.cur o n)=none;rw[aSl hi',hold];rfl
 .obtain⟨p,h1,rfl⟩:=IA hb;obtain⟨c,e1,e2⟩:=(KZ hk h1 fun c hc=>h.heap.blk p c hc).2 b o ho;exact hg.perm p c b o e1 e2
 .show (if i<s.np then g.J i else _)=_;rw[aSj pC];exact hg.J i p hi hp
 .rcases hg.live i hi with⟨p,hp⟩ |⟨n,v,hv⟩
  .left;refine⟨p,?_⟩;show (if i<s.np then g.J i else _)=_;rw[aSj pC];exact hp
  right;refine⟨n,v,?_⟩;show (if i<s.np then g.cur i n else _)=_;rw[aSj pC];exact hv
 obtain⟨o,h1,h2⟩:=IA hb;have ho:=(a0N hk h1).2 pC;subst ho;unfold yV at h2;split at h2
 .rename_i t x toks heq;split at h2
  .simp only[pW.cells.injEq] at h2;obtain⟨rfl,_⟩:=h2;exact hg.ty o u x toks hi heq
  cases hy:yU k.ids t x with
  |none=>rw[hy] at h2;cases h2
  |some y=>
   rw[hy] at h2;simp only[ZM,pW.cells.injEq] at h2;obtain⟨rfl,_⟩:=h2;exact hg.ty o u x toks hi heq
 .cases h2
 .split at h2<;>cases h2
 .split at h2<;>cases h2
 .cases h2
 cases h2
def GB {B:Nat}{A:Nat->Nat->Prop}{L:List pW}{g0 g:Gh}{w0 w:pN}{s:St}{a:Act}(h:uP B g w s a) (hg:sX A L g0 w0 g w s.H) (hnp:s.np=L.length) (k:w4):
  ∃g',uP B g' w (s.keep k) a/\sX A L g0 w0 g' w (s.keep k).H/\(s.keep k).np=L.length/\(s.keep k).N=s.N:=by
 unfold St.keep;cases hk:wV s.np k.ids with
 |false=>
  refine⟨g,⟨fun t=>⟨trivial,trivial⟩,⟨(fun i b h=>by cases h),(fun i j bi bj b o _ h=>by cases h),h.heap.sl,h.heap.tab.1,(fun i b bb oo h=>by cases h)⟩,h.size,h.nb,h.def_,h.np⟩,⟨hg.shut,hg.fr,(fun i blk b o h=>by cases h),hg.J,hg.live,(fun i u y us _ h=>by cases h),hg.cur⟩,hnp,rfl⟩
 |true=>
  have:=a0Q h hg hnp k hk;unfold St.keep at this;rw[hk] at this;exact⟨_,this⟩
end Go.Proofs.YtcpbaddnmpeipaaGreatDoor.Vc
