/- Packed by a program of mine (wip/tools/pack.py): the same texts with short names and few blanks. -/
import Derived.ChangeKeysEq
import Derived.Laws.BytesArg
import Derived.Laws.StructEq
import Derived.Lib.AppendStr
import Derived.MapKept
import Derived.RangeFuncLeaves
import Derived.RangeFuncNested
import Derived.WalkSpells
import Derived.Test.YtcpbaddnmpeipaaGreatDoorC00
set_option linter.defProp false
set_option linter.unusedVariables false
set_option linter.unusedSimpArgs false
set_option linter.unusedSectionVars false
set_option maxRecDepth 100000
set_option maxHeartbeats 4000000
namespace Go.Proofs.YtcpbaddnmpeipaaGreatDoor.Vc
open Go.RowKit
def xV (g:Gh) (base:Nat) (e:qS):Prop:= ∀i,i∈qQ e.upd->base<=i->g.J i=none/\∀n,g.cur i n=none
section
variable {P:Program}{o:Oper}{a:Act}{g:Gh}{w:q9}{H:s7}{T:sS}(hT:xA P T) (hH:sE g w H)
include hT hH
theorem a92 {x:Operand}(ho:o.op= .move x\/o.op= .assign x) {sx:qM}(hx:rO g w sx (a.eval x)) {base:Nat}{e:qS}(hr:YZ base (rR T o.type) sx=some e) (hf:xV g base e):rH P o a g w H e:=by
 have hrun:(execOp a.eval o).run P w= .ok (.value (a.eval x)) w:=by rcases ho with ho|ho<;>simp [execOp,ho]
 generalize hst:rR T o.type=ot at hr;unfold YZ at hr;split at hr
 .cases hr;have hv:a.eval x= .slice none 0 0:=hx.1;have hfr:=(hf base (by simp [qQ]) (aSJ _)).2;refine rH.value (v:= .slice none 0 0) (by rw[hrun,hv]) (rL.row (v:= .slice none 0 0) (xs:=[]) hH rfl (World.ownsRow_nil w 0 _ _) rfl (fun m _=>hfr m) (fun u hu=>by rw[hfr] at hu;cases hu) (.inl ⟨rfl,rfl,rfl,aSJ _,fun _ _ _=>rfl⟩) (fun _ _ _=>rfl) (fun b hb=>by cases hb) (fun b hb=>by cases hb) ⟨⟨by simp [Gh.tok],.inl ⟨rfl,rfl⟩⟩,trivial⟩)
 .cases hr;have hv:a.eval x= .slice none 0 0:=hx.1;refine rH.value (v:= .slice none 0 0) (by rw[hrun,hv]) (rL.nilTok hH rfl (hf base (by simp [qQ]) (aSJ _)).2)
 .cases hr
 cases hr;exact rH.value hrun (.pure hH hx)
theorem aIR {u:Ty}{y:List u.den}{k:pZ}{v:qB}{cs:pX}(h:D9 g (.list u) y v k) (hc:cs=[v]):GJ g (.list u) y cs (xL k 0):=by
 intro q kk hm;cases k with
 |none=>simp [xL] at hm
 |some k=>
  simp only[xL,aSI,aSQ] at hm;obtain⟨rfl,rfl⟩:=hm;exact⟨u,y,v,by unfold r9;simp [tV],by rw[hc];rfl,h⟩
omit hT hH in
theorem a0I {w:q9}: ∀(ls:List (Nat×TypeId×Nat)) (i:Nat) (g:Gh) (H:s7),sE g w H->(∀j,i<=j->j<i+ls.length->∀n,g.cur j n=none)->
  ∃g1,rL g w H ⟨[],(.any,none),DP ls i,[]⟩ g1 w undef/\g1.J=g.J/\(∀o k,(o,k)∈CC ls i->g1.cur k 0=some (.slice none 0 0))/\(∀k,k<i->g1.cur k=g.cur k)
 |[],i,g,H,hH,_=>⟨g,.pure hH ⟨trivial,trivial⟩,rfl,fun _ _ h=>by simp [CC] at h,fun _ _=>rfl⟩
 |(o,e,c)::r,i,g,H,hH,hf=>by
  have e1:=rL.nilTok (side:=[]) (d:= .val (.list .bool) []) (rds:=[]) (base:=i) (e:=e) (c:=c) (u:= .bool) hH rfl (hf i (aSJ _) pS);have hc1: ∀k n,k≠i->(g.tok i 0 (.slice none 0 0)).cur k n=g.cur k n:=fun k n hk=>by
   show (if k=i/\n=0 then _ else _)=_;rw[aSo (fun h=>hk h.1)]
  obtain⟨g1,k1,k2,k3,k4⟩:=a0I r (i+1) (g.tok i 0 (.slice none 0 0)) (r6 [(i,qJ.grow e c 0)] H) e1.heap (fun j h1 h2 n=>by rw[hc1 j n pQ];exact hf j pQ (by simp only[aSt];omega) n);refine⟨g1,e1.trans k1,k2.trans rfl,fun o' k hm=>?_,fun k hk=>?_⟩
  .simp only[CC,aSC,aSQ] at hm;rcases hm with⟨rfl,rfl⟩ |hm
   .rw[k4 _ pQ];show (if k=k/\0=0 then _ else _)=_;simp
   exact k3 o' k hm
  rw[k4 k pQ];funext n;exact hc1 k n pQ
omit hT hH in
theorem a0J: ∀{ls:List (Nat×TypeId×Nat)}{i o k:Nat},(o,k)∈CC ls i->∃q∈ls,q.1=o
 |[],_,_,_,h=>by simp [CC] at h
 |(o',e,c)::r,i,o,k,h=>by
  simp only[CC,aSC,aSQ] at h;rcases h with⟨h1,_⟩ |h
  .exact⟨(o',e,c),by simp,h1.symm⟩
  obtain⟨q,h1,h2⟩:=a0J h;exact⟨q,by simp [h1],h2⟩
omit hT hH in
theorem a0K {t:Ty}: ∀{ls:List (Nat×TypeId×Nat)},F0 t ls=true->∀q∈ls,EZ t q.1=true
 |[],_,_,h=>by cases h
 |(o,e,c)::r,h,q,hq=>by
  simp only[F0,aSA] at h;rcases aSC.1 hq with rfl|hq
  .exact h.1
  exact a0K h.2 q hq
omit hT hH in
theorem QF: ∀(ls:List (Nat×TypeId×Nat)) (i j:Nat),j∈qQ (DP ls i)↔i<=j/\j<i+ls.length
 |[],i,j=>by simp only[DP,qQ,aTQ,aSF,false_iff];omega
 |(o,e,c)::r,i,j=>by
  simp only[DP,CI,QF r (i+1) j,qQ,aSI,aSt];omega
omit hT hH in
theorem a0L {w:q9}: ∀(R:List (Nat×Nat×Ty)) (i:Nat) (g:Gh) (H:s7),sE g w H->(∀j,i<=j->j<i+R.length->∀n,g.cur j n=none)->
  ∃g1,rL g w H ⟨[],(.any,none),F1 R i,[]⟩ g1 w undef/\g1.J=g.J/\(∀j,j<R.length->g1.cur (i+j) 0=some (.slice none 0 0))/\(∀k,k<i->g1.cur k=g.cur k)
 |[],i,g,H,hH,_=>⟨g,.pure hH ⟨trivial,trivial⟩,rfl,fun _ h=>by simp at h,fun _ _=>rfl⟩
 |(o,e,u)::r,i,g,H,hH,hf=>by
  have hfr:=hf i (aSJ _) pS;have e1:=rL.row (side:=[]) (rds:=[]) (k:=i) (e:=e) (t:=u) (l:=[]) (n:=0) (s:=(.any,none)) (val:=undef) (v:= .slice none 0 0) (xs:=[]) hH rfl (World.ownsRow_nil w 0 _ _) rfl (fun m _=>hfr m) (fun u hu=>by rw[hfr] at hu;cases hu) (.inl ⟨rfl,rfl,rfl,aSJ _,fun _ _ _=>rfl⟩) (fun _ _ _=>rfl) (fun b hb=>by cases hb) (fun b hb=>by cases hb) ⟨trivial,trivial⟩;have hc1: ∀k n,k≠i->(g.tok i 0 (.slice none 0 0)).cur k n=g.cur k n:=fun k n hk=>by
   show (if k=i/\n=0 then _ else _)=_;rw[aSo (fun h=>hk h.1)]
  obtain⟨g1,k1,k2,k3,k4⟩:=a0L r (i+1) (g.tok i 0 (.slice none 0 0)) (r6 [(i,qJ.row e u [] 0)] H) e1.heap (fun j h1 h2 n=>by rw[hc1 j n pQ];exact hf j pQ (by simp only[aSt];omega) n);refine⟨g1,e1.trans k1,k2.trans rfl,fun j hj=>?_,fun k hk=>?_⟩
  .cases j with
   |zero=>
    rw[aTv,k4 _ pQ];show (if i=i/\0=0 then _ else _)=_;simp
   |succ j=>
    have:=k3 j (by simpa using hj);rwa [show i+1+j=i+(j+1) by omega] at this
  rw[k4 k pQ];funext n;exact hc1 k n pQ
omit hT hH in
theorem V1: ∀(R:List (Nat×Nat×Ty)) (i j:Nat),j∈qQ (F1 R i)↔i<=j/\j<i+R.length
 |[],i,j=>by simp only[F1,qQ,aTQ,aSF,false_iff];omega
 |(o,e,c)::r,i,j=>by
  simp only[F1,CI,V1 r (i+1) j,qQ,aSI,aSt];omega
omit hT hH in
theorem a0M {α:Type}: ∀l:List α,PO l=l.length
 |[]=>rfl
 |_::l=>by simp only[PO,a0M l,aSt]
omit hT hH in
theorem a93 {g:Gh}{w:q9}: ∀{t:Ty}{x:t.den}{cs:pX}{o:Nat},Rd g w t x cs->∀q∈zM t x o,o<=q.1/\cs[q.1-o]? =some (.slice none 0 0):=by
 intro t
 induction t with
 |pair a b iha ihb=>
  intro x cs o r q hq;obtain⟨c1,c2,rfl,r1,r2⟩:=r;simp only[zM,GK] at hq;have hl:=sV r1;rcases hq with hq|hq
  .obtain⟨h1,h2⟩:=iha r1 q hq;exact⟨h1,by rw[aSG (aSD.1 h2).1];exact h2⟩
  .obtain⟨h1,h2⟩:=ihb r2 q hq;refine⟨pQ,?_⟩;rw[aSw pQ,hl,show q.1-o-a.cells=q.1- (o+a.cells) by omega];exact h2
 |rl e u=>
  intro x cs o r q hq;cases x with
  |none=>
   simp only[zM,Z1,aSI] at hq;subst hq;refine⟨aSJ _,?_⟩;rw[show cs=[.slice none 0 0] from r];simp
  |some z=>simp [zM,Z1] at hq
 |_=>intro x cs o r q hq;simp [zM] at hq
omit hT hH in
theorem aIS {g:Gh}{w:q9}: ∀{t:Ty}{x:t.den}{cs:pX}{o:Nat},Rd g w t x cs->∀q∈GC t x o,o<=q/\cs[q-o]? =some (.pointer none):=by
 intro t
 induction t with
 |pair a b iha ihb=>
  intro x cs o r q hq;obtain⟨c1,c2,rfl,r1,r2⟩:=r;simp only[GC,GK] at hq;have hl:=sV r1;rcases hq with hq|hq
  .obtain⟨h1,h2⟩:=iha r1 q hq;exact⟨h1,by rw[aSG (aSD.1 h2).1];exact h2⟩
  .obtain⟨h1,h2⟩:=ihb r2 q hq;refine⟨pQ,?_⟩;rw[aSw pQ,hl,show q-o-a.cells=q- (o+a.cells) by omega];exact h2
 |mref=>
  intro x cs o r q hq;cases x with
  |none=>
   simp only[GC,Z2,aSI] at hq;subst hq;refine⟨aSJ _,?_⟩;rw[show cs=[.pointer none] from r];simp
  |some z=>simp [GC,Z2] at hq
 |_=>intro x cs o r q hq;simp [GC] at hq
omit hT hH in
theorem a0N {g:Gh}{w:q9}{t u:Ty}{x z:t.den}{y:u.den}{cs:pX}{o:Nat}{v:qB}(h:sL u y t x o=some z) (hy:Rd g w u y [v]) (hR:Rd g w t x cs) (hv:cs[o]? =some v):Rd g w t z cs:=by
 obtain⟨c1,c2,c3,rfl,rfl,h2,h3⟩:=Q8 hy hR h;have hu:=sV hy;simp only[aTr] at hu;rw[<-hu] at h2;obtain⟨v',rfl⟩:=aTF.1 h2;have:(c1++[v']++c3)[c1.length]? =some v':=by simp
 rw[this] at hv;obtain rfl:=aSr hv;exact h3
omit hT hH in
theorem a0O {g:Gh}{w:q9}{t:Ty}{cs:pX}: ∀{R:List (Nat×Nat×Ty)}{i:Nat}{x z:t.den},BM t i R (some x)=some z->Rd g w t x cs->(∀q∈R,cs[q.1]? =some (.slice none 0 0))->(∀j,j<R.length->g.cur (i+j) 0=some (.slice none 0 0))->Rd g w t z cs
 |[],i,x,z,h,hR,_,_=>by simp only[BM,aSm] at h;exact h▸hR
 |(o,e,u)::r,i,x,z,h,hR,hc,hg=>by
  simp only[BM] at h;cases hs:sL (.rl e u) (some (i,0)) t x o with
  |none=>rw[hs] at h;cases r<;>simp [BM] at h
  |some x'=>
   rw[hs] at h;refine a0O h (a0N (v:= .slice none 0 0) hs ⟨_,by simpa using hg 0 pS,rfl,.inl ⟨rfl,rfl⟩⟩ hR (hc _ aSH)) (fun q hq=>hc q (aSy _ hq)) (fun j hj=>?_);have:=hg (j+1) (by simpa using hj);rwa [show i+(j+1)=i+1+j by omega] at this
omit hT hH in
theorem a94 {g:Gh}{w:q9}{t:Ty}{cs:pX}{i:Nat}{p:Pl}(hp:g.J i=some p) (hp2:p.2=0): ∀{M:q8}{x z:t.den},I7 t i M (some x)=some z->Rd g w t x cs->(∀q∈M,cs[q]? =some (.pointer none)/\a0n p.3 q)->Rd g w t z cs
 |[],x,z,h,hR,_=>by simp only[I7,aSm] at h;exact h▸hR
 |q::r,x,z,h,hR,hc=>by
  simp only[I7] at h;cases hs:sL .mref (some (i,q)) t x q with
  |none=>rw[hs] at h;cases r<;>simp [I7] at h
  |some x'=>
   rw[hs] at h;exact a94 hp hp2 h (a0N (v:= .pointer none) hs ⟨p,hp,by rw[hp2,aSU];exact(hc _ aSH).2,.inl rfl⟩ hR (hc _ aSH).1) (fun q hq=>hc q (aSy _ hq))
omit hT hH in
theorem V2 {k:Nat}: ∀{ls:List (Nat×TypeId×Nat)}{q:Nat×TypeId×Nat},q∈CD k ls->q.1+1≠k
 |[],_,h=>by cases h
 |(o,e,c)::r,q,h=>by
  simp only[CD] at h;split at h
  .exact V2 h
  rename_i hne;rcases aSC.1 h with rfl|h
  .exact hne
  exact V2 h
omit hT in
theorem a0P {t:Ty}{y:t.den}{ls:List (Nat×TypeId×Nat)}{base:Nat}{e:qS}{cs:pX}{el:TypeId}(hr:PP base el t y ls (F0 t ls)=some e) (hf:xV g base e) (hR:Rd g w t y cs) (hn: ∀q∈ls,∃k,xS k t 0 cs/\q.1+1≠k):
  ∃g',rL g w H e g' (w.alloc (.cells cs.toArray el)) (.pointer (some ⟨w.heap.size,0,none⟩)):=by
 cases hl:F0 t ls with
 |false=>rw[hl] at hr;cases hr
 |true=>
  rw[hl] at hr;simp only[PP,a0M] at hr;have cR:=fun q hq=>a93 (o:=0) hR q hq;have cM: ∀q∈TC el t y,cs[q]? =some (.pointer none)/\a0n (some (el,cs.length)) q:=by
   intro q hq;unfold TC at hq;split at hq
   .rename_i hb;have h0:=fun q hq=>aIS (o:=0) hR q hq;have hl:=sV hR;generalize GC t y 0=M at hq h0;rw[<-hl] at hq;unfold a80 at hq;split at hq
    .rename_i h2;simp only[aSI] at hq;subst hq;exact⟨by simpa using(h0 0 pS).2,rfl,el,hb,by rw[h2]⟩
    cases hq
   cases hq
  generalize zM t y 0=R at hr cR;generalize TC el t y=M at hr cM;cases hz1:BM t (base+1+ls.length) R (some y) with
  |none=>
   rw[hz1] at hr;have:I7 t base M none=none:=by cases M<;>rfl
   rw[this] at hr;cases hr
  |some z1=>
   rw[hz1] at hr;cases hz2:I7 t base M (some z1) with
   |none=>rw[hz2] at hr;cases hr
   |some z=>
    rw[hz2] at hr;simp only[a81,a0M] at hr;obtain rfl:=(aSr hr);have hfr: ∀j,base+1<=j->j<base+1+ls.length+R.length->g.J j=none/\∀n,g.cur j n=none:=fun j h1 h2=>hf j (by
     simp only[qQ,aSC];right;rw[CI];by_cases h3:j<base+1+ls.length
     .exact .inr ((QF ls (base+1) j).2 ⟨h1,h3⟩)
     exact .inl ((V1 R (base+1+ls.length) j).2 ⟨pQ,h2⟩)) pQ
    have hf0:=hf base (by simp [qQ]) (aSJ _);obtain⟨g1,k1,k2,k3,k4⟩:=a0I ls (base+1) g H hH (fun j h1 h2=>(hfr j h1 pQ).2);have hfr1: ∀j,base+1+ls.length<=j->j<base+1+ls.length+R.length->∀n,g1.cur j n=none:=by
     intro j h1 h2 n;have:=(k1.gho j (by simp only;rw[QF];omega)).2;rw[this];exact(hfr j pQ h2).2 n
    obtain⟨g2,m1,m2,m3,m4⟩:=a0L R (base+1+ls.length) g1 _ k1.heap hfr1;have hJ:(g2.var base w.heap.size (some (el,cs.length))).J base=some ⟨w.heap.size,0,some (el,cs.length)⟩:=by simp [Gh.var]
    have hle:Le g w (g2.var base w.heap.size (some (el,cs.length))) w:=by
     refine((k1.le.trans m1.le).trans ⟨fun _ _ h=>h,fun _ _ _=>rfl,fun i p h=>?_,fun _ _ _ h=>h⟩);show (if i=base then _ else _)=_;rw[aSo (fun e1=>by rw[e1,m2,k2,hf0.1] at h;cases h)];exact h
    have hRz:Rd (g2.var base w.heap.size (some (el,cs.length))) w t z cs:=a94 hJ rfl hz2 (a0O hz1 (wE hle hR) (fun q hq=>by simpa using(cR q hq).2) (fun j hj=>m3 j hj)) cM;have htk:GJ g2 t z cs (CC ls (base+1)):=by
     intro o k hm;obtain⟨q,hq,rfl⟩:=a0J hm;obtain⟨kx,hx1,hx2⟩:=hn q hq;obtain⟨u,h1,h2⟩:=a9M hx1 hRz (a0K hl q hq) pQ;exact⟨u,[],_,h1,h2,m1.le.cur _ _ _ (k3 _ _ hm)⟩
    have e3:=rL.newVarJ (side:=[]) (rds:=[]) (base:=base) (toks:=CC ls (base+1)) (e:=el) m1.heap hRz htk (by rw[m2,k2];exact hf0.1) (by rw[m4 base pQ,k4 base pQ];exact funext hf0.2);have e4:=rL.trans (side:=[]) (rds:=[]) k1 m1;exact⟨_,rL.trans (side:=[]) (rds:=[]) e4 (e3.congrH (H':=r6 (r6 (F1 R (base+1+ls.length)) (DP ls (base+1))) H) (by simp only[KZ]))⟩
theorem a0Q {t:Ty}{y:t.den}{k:pZ}{v:qB}(h:rO g w (.val t y,k) v):tB g w t y v/\D9 g t y v k:=by
 refine⟨h.1,?_⟩;cases k with
 |none=>trivial
 |some k=>exact h.2
theorem aIT {t:TypeId}{x:Operand}(ho:o.op= .box t x) {sx:qM}(hx:rO g w sx (a.eval x)) {base:Nat}{e:qS}(hr:Z3 base t (rR T t) sx=some e) (hf:xV g base e):rH P o a g w H e:=by
 generalize hst:rR T t=ot at hr;have hrun:(execOp a.eval o).run P w= .ok (.value (.pointer (some ⟨w.heap.size,0,none⟩))) (w.alloc (.cells (a.eval x).cells.toList.toArray t)):=by
  unfold execOp;rw[ho];simp only[Instr.box,Go.newVar,newRow,aSz,run_newObj,aSu,aSN,aTR];rfl
 have one: ∀{u:Ty}{y:u.den},tB g w u y (a.eval x)->u.isRow=false->(a.eval x).cells.toList=[a.eval x]:=fun hv hrow=>by
  have h1:=A1 (xB hrow hv) _ (aSI.2 rfl);cases h:a.eval x<;>first|rfl|(rw[h] at h1;simp [Value.oneCell'] at h1)
 unfold Z3 at hr;split at hr
 .rename_i ti u y k;split at hr
  .obtain⟨hv,hk⟩:=a0Q hT hH hx;have hR:=F7 hv;unfold a82 at hr;split at hr
   .rename_i a' b' y' k' _;have hn:xS k' (.pair a' b') 0 (a.eval x).cells.toList:=hk;obtain⟨g',h⟩:=a0P (el:=t) hH hr hf hR (fun q hq=>⟨k',hn,V2 hq⟩);exact rH.value hrun h
   .rename_i u' y' k';cases hr;have hfr:=hf base (by simp [qQ]) (aSJ _);exact rH.value hrun (rL.newVar hH hR (aIR hT hH hk (one hv rfl)) hfr.1 (funext hfr.2))
   cases hr;have hfr:=hf base (by simp [qQ]) (aSJ _);exact rH.value hrun (rL.newVar hH hR (fun q k hm=>by cases hm) hfr.1 (funext hfr.2))
  cases hr
 cases hr
theorem a95 {t:TypeId}(run: ∀ti,rR T t=some ti->(execOp a.eval o).run P w= .ok (.value (.pointer (some ⟨w.heap.size,0,none⟩))) (w.alloc (.cells (tX ti.ty).toArray t))) {base:Nat}{e:qS}(hr:PQ base t (rR T t)=some e) (hf:xV g base e):rH P o a g w H e:=by
 generalize hst:rR T t=ot at hr;unfold PQ at hr;split at hr
 .rename_i u el by' ar ls_;cases hr;have hf0:=hf base (by simp [qQ]) (aSJ _);have hf1:=hf (base+1) (by simp [qQ]) pQ;have hty:=sZ hT hst;have e1:=rL.nilTok (side:=[]) (d:= .val (.list u) []) (rds:=[]) (base:=base+1) (e:=el) (c:=u.cells) (u:=u) hH rfl hf1.2;have hH1:=e1.heap;have htk:GJ (g.tok (base+1) 0 (.slice none 0 0)) (.list u) [] [.slice none 0 0] [(0,base+1)]:=by
   intro q kk hm;simp only[aSI,aSQ] at hm;obtain⟨rfl,rfl⟩:=hm;exact⟨u,[],.slice none 0 0,by unfold r9;simp [tV],rfl,by simp [Gh.tok]⟩
  have e2:=rL.newVar (side:=[]) (rds:=[]) (base:=base) (toks:=[(0,base+1)]) (e:=t) hH1 (DS (g.tok (base+1) 0 (.slice none 0 0)) w (.list u)) htk hf0.1 (by
   funext n;show (if base=base+1/\n=0 then _ else _)=_;rw[aSo pQ];exact hf0.2 n)
  exact rH.value (run _ hst) (rL.trans (side:=[]) (rds:=[]) e1 e2)
 .rename_i ti hno;obtain⟨g',h⟩:=a0P (el:=t) hH hr hf (DS g w ti.ty) (fun q _=>⟨0,UU _ _,pQ⟩);exact rH.value (run _ hst) h
 cases hr
theorem aIU {t:TypeId}(ho:o.op= .alloc t) {base:Nat}{e:qS}(hr:PQ base t (rR T t)=some e) (hf:xV g base e):rH P o a g w H e:=by
 have run: ∀ti,rR T t=some ti->(execOp a.eval o).run P w= .ok (.value (.pointer (some ⟨w.heap.size,0,none⟩))) (w.alloc (.cells (tX ti.ty).toArray t)):=by
  intro ti hti;obtain⟨i,hi,hsz,hz⟩:=DU (sZ hT hti);have hc:(xT ti.ty).cells=(tX ti.ty).toArray:=by
   have:=F7 (L1 g w ti.ty);unfold xT;cases h:ti.ty<;>simp [Ty.isRow,tX,Value.cells]
  unfold execOp;rw[ho];simp only[Instr.alloc,zeroValue,typeInfo,Go.newVar,newRow,aSz,aTg,hi,hz,hc,run_newObj,aSu,aSN];rfl
 exact a95 hT hH run hr hf
theorem aIV {t:TypeId}{x:Operand}(ho:o.op= .box t x) {sx:qM}(hx:rO g w sx (a.eval x)) (hfix: ∀ti:Option TI,rO g w (MT ti sx) (a.eval x)) {base:Nat}{e:qS}(hr:Z4 base t (rR T t) sx=some e) (hf:xV g base e):rH P o a g w H e:=by
 generalize hst:rR T t=ot at hr;unfold Z4 at hr;split at hr
 .rename_i u el by' ls_ k;obtain⟨g',h⟩:=a0P (el:=t) hH hr hf (show Rd g w (.rl el u) none [.slice none 0 0] from rfl) (fun q hq=>by cases hq);have hv:a.eval x= .slice none 0 0:=hx.1;refine rH.value ?_ h;unfold execOp;rw[ho];simp only[Instr.box,Go.newVar,newRow,aSz,run_newObj,aSu,aSN,hv];rfl
 .rename_i u el by' ar ls_ k;rw[<-hst] at hr;refine a95 hT hH (fun ti hti=>?_) hr hf;rw[hst] at hti;cases hti;have hv:a.eval x= .slice none 0 0:=hx.1;unfold execOp;rw[ho];simp only[Instr.box,Go.newVar,newRow,aSz,run_newObj,aSu,aSN,hv];rfl
 rw[<-hst] at hr;exact aIT hT hH ho (hfix _) hr hf
omit hT hH in
theorem aIW {t:Ty}{y:t.den}{k:pZ}{v:qB}(h:D9 g t y v k):D9 g t y v (EW t k):=by
 cases t with
 |list u=>exact h
 |_=>trivial
omit hT hH in
theorem a96 {off:Nat}: ∀{l:pV}{o k:Nat},(o,k)∈N2 off l->∃q,o=off+q/\(q,k)∈l
 |[],_,_,h=>by cases h
 |(q,k')::r,o,k,h=>by
  simp only[N2,aSC,aSQ] at h;rcases h with⟨rfl,rfl⟩ |h
  .exact⟨q,rfl,aSH⟩
  obtain⟨q',h1,h2⟩:=a96 h;exact⟨q',h1,aSy _ h2⟩
omit hT hH in
theorem a97 {v t:Ty}{y:t.den}: ∀{u:Ty}{x z:u.den}{o q:Nat}{l:(Ty.list v).den},sL t y u x o=some z->r9 (.list v) t y q=some l->q<t.cells->r9 (.list v) u z (o+q)=some l:=by
 intro u
 induction u with
 |pair a b iha ihb=>
  intro x z o q l h g hq;by_cases hu:o=0/\t= .pair a b
  .obtain⟨rfl,rfl⟩:=hu;unfold sL at h;rw[aUm rfl] at h;simp only[tV,aSm] at h;subst h;simpa using g
  .have keyh:(if o<a.cells then(sL t y a x.1 o).map (fun q=>(q,x.2)) else(sL t y b x.2 (o-a.cells)).map (fun q=>(x.1,q)))=some z:=by
    cases o with
    |zero=>
     unfold sL at h;rw[aTP (fun e=>hu ⟨rfl,e⟩)] at h;simpa using h
    |succ o=>simpa[sL] using h
   have keyg: ∀m,r9 (.list v) (.pair a b) z m=(if m<a.cells then r9 (.list v) a z.1 m else r9 (.list v) b z.2 (m-a.cells)):=by
    intro m;cases m with
    |zero=>
     conv=>lhs;unfold r9
     rw[aTP (by intro e;cases e),Nat.zero_sub]
    |succ m=>simp [r9]
   rw[keyg];by_cases ho:o<a.cells
   .rw[aSn ho] at keyh;obtain⟨z',hz',rfl⟩:=aSE.1 keyh;have hfit:o+t.cells<=a.cells:=by
     have: ∀{u:Ty}{x z:u.den}{o:Nat},sL t y u x o=some z->o+t.cells<=u.cells:=by
      intro u
      induction u with
      |pair a b iha ihb=>
       intro x z o h;have key: ∀o,(if o<a.cells then(sL t y a x.1 o).map (fun q=>(q,x.2)) else(sL t y b x.2 (o-a.cells)).map (fun q=>(x.1,q)))=some z->o+t.cells<=a.cells+b.cells:=by
        intro o h;by_cases ho:o<a.cells
        .rw[aSn ho] at h;obtain⟨z',hz',_⟩:=aSE.1 h;have:=iha hz';omega
        rw[aSo ho] at h;obtain⟨z',hz',_⟩:=aSE.1 h;have:=ihb hz';omega
       cases o with
       |zero=>
        unfold sL at h;split at h
        .rename_i e;subst e;simp
        .exact key 0 (by simpa using h)
       |succ o=>exact key (o+1) (by simpa[sL] using h)
      |_=>
       intro x z o h;cases o with
       |zero=>
        unfold sL at h;split at h
        .rename_i e;subst e;simp
        .simp at h
       |succ o=>simp [sL] at h
     exact this hz'
    rw[aSn pQ];exact iha hz' g hq
   .rw[aSo ho] at keyh;obtain⟨z',hz',rfl⟩:=aSE.1 keyh;rw[aSo pQ,show o+q-a.cells=o-a.cells+q from by omega];exact ihb hz' g hq
 |_=>
  intro x z o q l h g hq;cases o with
  |zero=>
   unfold sL at h;split at h
   .rename_i e;subst e;simp only[tV,aSm] at h
    try subst h
    simpa using g
   .simp at h
  |succ o=>simp [sL] at h
omit hT hH in
theorem a98 {v:Ty}: ∀{t:Ty}{x:t.den}{q:Nat}{l:(Ty.list v).den},r9 (.list v) t x q=some l->q<t.cells:=by
 intro t
 induction t with
 |pair s t ihs iht=>
  intro x q l g;have key: ∀q,(if q<s.cells then r9 (.list v) s x.1 q else r9 (.list v) t x.2 (q-s.cells))=some l->q<s.cells+t.cells:=by
   intro q g;by_cases h:q<s.cells
   .omega
   rw[aSo h] at g;have:=iht g;omega
  cases q with
  |zero=>
   unfold r9 at g;rw[aTP (by intro e;cases e)] at g;exact key 0 (by simpa using g)
  |succ q=>exact key (q+1) (by simpa[r9] using g)
 |unit=>
  intro x q l g;cases q with
  |zero=>unfold r9 at g;rw[aTP (by intro e;cases e)] at g;cases g
  |succ q=>simp [r9] at g
 |_=>
  intro x q l g;cases q with
  |zero=>simp [Ty.cells]
  |succ q=>simp [r9] at g
omit hT in
theorem rL.retok {i:Nat}{u:Ty}{z:u.den}{toks nt:pV}{p:Pl}(hb:qO H i=some (.cells u z toks)) (hp:g.J i=some p)
  (hn: ∀cs,Rd g w u z cs->w.rangeAt p.1 p.2 cs->GJ g u z cs nt):rL g w H ⟨[],(.any,none),[(i,.cells u z (r6 nt toks))],[]⟩ g w undef:=by
 obtain⟨p',cs,hp',hR,hra,hth,hns,htk⟩:=hH.blk i _ hb;rw[hp] at hp';obtain rfl:=aSr hp';have get: ∀j blk,j∈qQ [(i,qJ.cells u z (r6 nt toks))]->qO (r6 [(i,qJ.cells u z (r6 nt toks))] H) j=some blk->j=i/\blk= .cells u z (r6 nt toks):=by
  intro j blk hi hg;simp only[qQ,aSI] at hi;subst hi;simp only[r6,qO,aTW,aSm] at hg;exact⟨rfl,hg.symm⟩
 have perm: ∀j blk b o,j∈qQ [(i,qJ.cells u z (r6 nt toks))]->qO (r6 [(i,qJ.cells u z (r6 nt toks))] H) j=some blk->s9 g j blk b o->w.heap.size<=b\/sU g H (qQ [(i,qJ.cells u z (r6 nt toks))]) b o:=by
  intro j blk b o hi hg ho;obtain⟨rfl,rfl⟩:=get j blk hi hg;exact .inr ⟨j,_,hi,hb,ho⟩
 have le:Le g w g w:=⟨fun _ _ h=>h,fun _ _ _=>rfl,fun _ _ h=>h,fun _ _ _ h=>h⟩;have fr:Fr (sU g H (qQ [(i,qJ.cells u z (r6 nt toks))])) w w g.S g.S:=⟨rfl,rfl,rfl,aSJ _,fun _ _ _=>rfl,fun _ _ _ _=>⟨rfl,rfl⟩,fun _ _ h=> .inl h,fun _ _ h=> .inl h⟩;refine⟨le,⟨trivial,trivial⟩,hH.upd le fr perm (fun _ _=>⟨rfl,rfl⟩) (fun j blk hi hg=>?_) (fun i j bi bj b o hi hj hij hgi hgj _ _=>hij ((get i bi hi hgi).1.trans (get j bj hj hgj).1.symm)) (fun b o h=>hH.sl b o h),fr,perm,fun _ _=>⟨rfl,rfl⟩,fun j u' y' us h=>?_⟩
 .obtain⟨rfl,rfl⟩:=get j blk hi hg;refine⟨p,cs,hp,hR,hra,hth,hns,fun q kk hm=>?_⟩;rcases(GK.1 hm) with hm|hm
  .exact hn cs hR hra q kk hm
  exact htk q kk hm
 simp only[r6,qO] at h;split at h
 .rename_i e1;subst e1;simp only[aSm,qJ.cells.injEq] at h;obtain⟨rfl,_⟩:=h;exact .inl ⟨z,toks,hb⟩
 exact .inl ⟨y',us,h⟩
omit hT hH in
theorem aIX {g:Gh}{t a b:Ty}{y:t.den}{v:qB}{k:pZ}(h:k.isSome=true) (ht:t= .pair a b) (hk:D9 g t y v k): ∃m,k=some m/\xS m t 0 v.cells.toList:=by
 subst ht;cases k with
 |none=>cases h
 |some k=>exact⟨k,rfl,hk⟩
omit hT hH in
theorem aIY {base i off:Nat}{b:Option qJ}{ls:List (Nat×TypeId×Nat)}{t:Ty}{y:t.den}{k:pZ}{e:qS}(h:GE base i off b ls t y k=some e):
  (∃(s:Ty) (x:s.den) (toks:pV) (z:s.den),b=some (.cells s x toks)/\sL t y s x off=some z/\k.isSome=true/\(∃a c,t= .pair a c)/\∃m,k=some m/\F0 t (CD m ls)=true/\
   e=⟨[],(.any,none),(i,.cells s z (r6 (N2 off (CC (CD m ls) base)) (tH toks off t.cells)))::r6 (DP (CD m ls) base) [(i,.cells s z (tH toks off t.cells))],[i]⟩)\/TO t y k i off b=some e:=by
 unfold GE at h;split at h
 .rename_i q r a c y' k';cases hok:F0 (.pair a c) (CD k' (q::r)) with
  |false=>rw[hok] at h;unfold TP at h;split at h<;>first|cases h|(rename_i h2;cases h2)
  |true=>
   rw[hok] at h;unfold TP at h;split at h
   .rename_i s x toks _;cases hset:sL (.pair a c) y' s x off with
    |none=>rw[hset] at h;cases h
    |some z=>
     rw[hset] at h;exact .inl ⟨s,x,toks,z,rfl,hset,rfl,⟨a,c,rfl⟩,_,rfl,hok,(aSr h).symm⟩
   cases h
 exact .inr h
omit hT hH in
theorem a99 {i off k n el:Nat}{u v:Ty}{x:v.den}{ts:pV}{ls:List (Nat×TypeId×Nat)}{y:Option qS}{e:qS}(h:ZN H i off k n el u v x ts ls y=some e):y=some e\/ZM i (yB el u (some (k,n)) v x off)=some e\/PV i off k n u v x (tH ts off 1) (qO H k)=some e:=by
 cases y with
 |some r=>exact .inl h
 |none=>cases ls with
  |nil=>exact .inr (.inl h)
  |cons q r=>exact .inr (.inr h)
omit hT hH in
theorem aIZ {v:Ty}{e:Nat}{u:Ty}{y:pY}: ∀{t:Ty}{x z:t.den}{o q:Nat}{l:(Ty.list v).den},sL (.rl e u) y t x o=some z->r9 (.list v) t x q=some l->q≠o:=by
 intro t
 induction t with
 |pair a b iha ihb=>
  intro x z o q l h g;have keyh:(if o<a.cells then(sL (.rl e u) y a x.1 o).map (fun q=>(q,x.2)) else(sL (.rl e u) y b x.2 (o-a.cells)).map (fun q=>(x.1,q)))=some z:=by
   cases o with
   |zero=>
    unfold sL at h;rw[aTP (by intro e;cases e)] at h;simpa using h
   |succ o=>simpa[sL] using h
  have keyg:(if q<a.cells then r9 (.list v) a x.1 q else r9 (.list v) b x.2 (q-a.cells))=some l:=by
   cases q with
   |zero=>
    unfold r9 at g;rw[aTP (by intro e;cases e)] at g;simpa using g
   |succ q=>simpa[r9] using g
  intro hqo;subst hqo;by_cases hq:q<a.cells
  .rw[aSn hq] at keyh keyg;obtain⟨z',hz',_⟩:=aSE.1 keyh;exact iha hz' keyg rfl
  .rw[aSo hq] at keyh keyg;obtain⟨z',hz',_⟩:=aSE.1 keyh;exact ihb hz' keyg rfl
 |rl e' u'=>
  intro x z o q l h g hqo;cases q with
  |zero=>
   unfold r9 at g;split at g
   .rename_i e1;cases e1
   .cases g
  |succ q=>simp [r9] at g
 |_=>
  intro x z o q l h g hqo;cases o with
  |zero=>
   unfold sL at h;split at h
   .rename_i e1;cases e1
   .cases h
  |succ o=>simp [sL] at h
omit hT hH in
theorem aAa {n:Nat}: ∀{l:List (Nat×qJ)},TR n l=true->∀j,j∈qQ l->j<n
 |[],_,j,h=>by cases h
 |(i,b)::r,h,j,hj=>by
  simp only[TR] at h;split at h
  .simp only[qQ,aSC] at hj;rcases hj with rfl|hj
   .assumption
   exact aAa h j hj
  cases h
omit hT in
theorem aAb {v:Ty}{t:Ty}: ∀{R:List (Nat×Nat×Ty)}{i:Nat}{x z:t.den}{q:Nat}{l:(Ty.list v).den},BM t i R (some x)=some z->r9 (.list v) t x q=some l->r9 (.list v) t z q=some l
 |[],i,x,z,q,l,h,g=>by simp only[BM,aSm] at h;exact h▸g
 |(o,e,u)::r,i,x,z,q,l,h,g=>by
  simp only[BM] at h;cases hs:sL (.rl e u) (some (i,0)) t x o with
  |none=>rw[hs] at h;cases r<;>simp [BM] at h
  |some x'=>
   rw[hs] at h;have hne:=aIZ hs g;exact aAb h (V0 hH hs g (fun⟨h1,h2⟩=>by simp only[Ty.cells] at h2;omega))
omit hT in
theorem rL.reread {i:Nat}{u:Ty}{z z2:u.den}{toks0 toks:pV}{p:Pl}(hb:qO H i=some (.cells u z toks0)) (hp:g.J i=some p) (hsub: ∀x∈toks,x∈toks0)
  (hn: ∀cs,Rd g w u z cs->w.rangeAt p.1 p.2 cs->Rd g w u z2 cs) (hl: ∀(v:Ty) q (l:(Ty.list v).den),r9 (.list v) u z q=some l->r9 (.list v) u z2 q=some l):rL g w H ⟨[],(.any,none),[(i,.cells u z2 toks)],[]⟩ g w undef:=by
 obtain⟨p',cs,hp',hR,hra,hth,hns,htk⟩:=hH.blk i _ hb;rw[hp] at hp';obtain rfl:=aSr hp';have get: ∀j blk,j∈qQ [(i,qJ.cells u z2 toks)]->qO (r6 [(i,qJ.cells u z2 toks)] H) j=some blk->j=i/\blk= .cells u z2 toks:=by
  intro j blk hi hg;simp only[qQ,aSI] at hi;subst hi;simp only[r6,qO,aTW,aSm] at hg;exact⟨rfl,hg.symm⟩
 have perm: ∀j blk b o,j∈qQ [(i,qJ.cells u z2 toks)]->qO (r6 [(i,qJ.cells u z2 toks)] H) j=some blk->s9 g j blk b o->w.heap.size<=b\/sU g H (qQ [(i,qJ.cells u z2 toks)]) b o:=by
  intro j blk b o hi hg ho;obtain⟨rfl,rfl⟩:=get j blk hi hg;exact .inr ⟨j,_,hi,hb,ho⟩
 have le:Le g w g w:=⟨fun _ _ h=>h,fun _ _ _=>rfl,fun _ _ h=>h,fun _ _ _ h=>h⟩;have fr:Fr (sU g H (qQ [(i,qJ.cells u z2 toks)])) w w g.S g.S:=⟨rfl,rfl,rfl,aSJ _,fun _ _ _=>rfl,fun _ _ _ _=>⟨rfl,rfl⟩,fun _ _ h=> .inl h,fun _ _ h=> .inl h⟩;refine⟨le,⟨trivial,trivial⟩,hH.upd le fr perm (fun _ _=>⟨rfl,rfl⟩) (fun j blk hi hg=>?_) (fun i j bi bj b o hi hj hij hgi hgj _ _=>hij ((get i bi hi hgi).1.trans (get j bj hj hgj).1.symm)) (fun b o h=>hH.sl b o h),fr,perm,fun _ _=>⟨rfl,rfl⟩,fun j u' y' us h=>?_⟩
 .obtain⟨rfl,rfl⟩:=get j blk hi hg;refine⟨p,cs,hp,hn cs hR hra,hra,hth,hns,fun q kk hm=>?_⟩;obtain⟨v,l,vv,h1,h2,h3⟩:=htk q kk (hsub _ hm);exact⟨v,l,vv,hl v q l h1,h2,h3⟩
 simp only[r6,qO] at h;split at h
 .rename_i e1;subst e1;simp only[aSm,qJ.cells.injEq] at h;obtain⟨rfl,_⟩:=h;exact .inl ⟨z,toks0,hb⟩
 exact .inl ⟨y',us,h⟩
omit hT in
theorem aI0 {base:Nat}{e0 e:qS}(hr:PU base (some e0)=some e) {w':q9}{g1:Gh}{i:Nat}{v:Ty}{z:v.den}{ts:pV}{U:List (Nat×qJ)}(he:e0.upd=(i,.cells v z ts)::U) (hs:e0.side=[]) (hl:e0.slot=(.any,none)) (h0:rL g w H e0 g1 w' undef) (hf:xV g base e):
  e.side=[]/\∃g',rL g w H e g' w' undef:=by
 obtain⟨sd,s,up,rd⟩:=e0;simp only at he hs hl;subst he hs hl;simp only[PU] at hr;split at hr
 case isFalse=>cases hr
 rename_i hbe;have hno:=aAa hbe;cases hz:BM v base (zM v z 0) (some z) with
 |none=>rw[hz] at hr;cases hr
 |some z2=>
  rw[hz] at hr;simp only[TQ,aSm] at hr;subst hr;refine⟨rfl,?_⟩;obtain⟨p,cs,hp,hR,hra,_,_,_⟩:=h0.heap.blk i (.cells v z ts) (by simp [r6,qO]);have hfree: ∀j,base<=j->j<base+(zM v z 0).length->∀n,g1.cur j n=none:=by
   intro j h1 h2 n;have hj:j∉qQ ((i,qJ.cells v z ts)::U):=fun h=>by have:=hno j h;omega
   rw[(h0.gho j hj).2];exact(hf j (by simp only[qQ,aSC];right;rw[CI];exact .inl ((V1 _ base j).2 ⟨h1,h2⟩)) h1).2 n
  obtain⟨g2,m1,m2,m3,m4⟩:=a0L (zM v z 0) base g1 _ h0.heap hfree;have hb3:qO (r6 (F1 (zM v z 0) base) (r6 ((i,qJ.cells v z ts)::U) H)) i=some (.cells v z ts):=by
   rw[A3 (fun h=>by
    have h1:=(V1 _ base i).1 h;have h2:=hno i (by simp [qQ]);omega)]
   simp [r6,qO]
  have cR:=fun cs (hR:Rd g2 w' v z cs) q hq=>a93 (o:=0) hR q hq;have e3:=rL.reread (z2:=z2) (p:=p) m1.heap hb3 (by rw[m2];exact hp) (fun _ h=>h) (fun cs hRc _=>a0O hz hRc (fun q hq=>by simpa using(cR cs hRc q hq).2) (fun j hj=>m3 j hj)) (fun v' q l hg=>aAb hH hz hg);have e4:=rL.trans (side:=[]) (rds:=[]) h0 m1;have e5:=rL.trans (side:=[]) (rds:=[i]) e4 (e3.congrH (H':=r6 (r6 (F1 (zM v z 0) base) ((i,qJ.cells v z ts)::U)) H) (by simp only[KZ]));exact⟨_,e5⟩
omit hT hH in
theorem aI1 {i:Nat}{d:DV}{r3 r4:Nat×Nat}{sd:List Prop}{y:Nat×Nat×(Nat×Nat)×(Nat×Nat)}(h:TU i d r3 r4=some (sd,y)) (hs: ∀p∈sd,p) {v:qB}(hd:yO g w (.apd d) v):F6 g w y [v]:=by
 obtain⟨b,u,rfl,hS,hc,hu⟩:=hd;unfold TU at h;split at h
 .rename_i j o;obtain⟨p,hp,rfl⟩:=xC hu;unfold a89 at h;split at h
  .rename_i hji;subst hji;split at h
   .rename_i ho;subst ho;cases h;exact .inr ⟨pR,b,_,rfl,hS,hc,fun _=>⟨p,hp,rfl⟩,fun q=>absurd q pR,fun q=>absurd q pR,fun q=>absurd q pR⟩
   split at h
   .rename_i ho;subst ho;cases h;exact .inr ⟨pR,b,_,rfl,hS,hc,fun q=>absurd q pR,fun _=>⟨p,hp,rfl⟩,fun q=>absurd q pR,fun q=>absurd q pR⟩
   cases h
  cases h
 .rename_i k n c ix o;obtain⟨bb,cap,hcur,h0,h1,rfl⟩:=hu;unfold a9a at h;split at h
  .rename_i hc1;subst hc1;split at h
   .rename_i ho;subst ho;split at h
    .rename_i hk;cases h;have e1:=hs _ (aSH);have e2:=hs _ (aSy _ aSH);rw[hk,e1] at hcur;refine .inr ⟨pR,b,_,rfl,hS,hc,fun q=>absurd q pR,fun q=>absurd q pR,fun _=>⟨bb,cap,by rw[hk];exact hcur,pQ,by congr 1;omega⟩,fun q=>absurd q pR⟩
    cases h
   cases h
  split at h
  .rename_i hc2;subst hc2;split at h
   .rename_i ho;subst ho;split at h
    .rename_i hk;cases h;have e1:=hs _ (aSH);have e2:=hs _ (aSy _ aSH);rw[hk,e1] at hcur;refine .inr ⟨pR,b,_,rfl,hS,hc,fun q=>absurd q pR,fun q=>absurd q pR,fun q=>absurd q pR,fun _=>⟨bb,cap,by rw[hk];exact hcur,pQ,by congr 1;omega⟩⟩
    cases h
   cases h
  cases h
 cases h
theorem aI2 {t:TypeId}{x y:Operand}(ho:o.op= .store t x y) {sx sy:qM}(hx:rO g w sx (a.eval x)) (hy:rO g w sy (a.eval y)) {base:Nat}{e:qS}(hr:TW base H (rR T t) sx sy=some e) (hside: ∀p∈e.side,p) (hf:xV g base e):rH P o a g w H e:=by
 generalize hst:rR T t=ot at hr;unfold TW at hr;split at hr
 .rename_i ti i off k kk n k2;generalize hb:qO H i=ob at hr;unfold N3 at hr;split at hr
  .rename_i u el _ _ _ v x' toks;rcases a99 hr with hq|hq|hq
   case inr.inr hq=>
    clear hr;generalize hk:qO H kk=ok at hq;unfold PV at hq;split at hq
    case h_2=>cases hq
    rename_i el2 t2 l2 m2;split at hq
    case isFalse=>cases hq
    rename_i htu;subst htu;generalize hset:sL (.list t2) l2 v x' off=oz at hq;cases oz with
    |none=>cases hq
    |some z'=>
     simp only[TS,aSm] at hq;subst hq;have hnm:n=m2:=hside _ (aSI.2 rfl);subst hnm;have hty:=sZ hT hst;obtain⟨p,hp,hv⟩:=xC hx.1;obtain⟨h1,h2⟩:=hy.1;obtain⟨g1,k1,k2,k3,k4⟩:=a9R hH hk;have hik:i≠kk:=fun e1=>by rw[e1,hk] at hb;cases hb
     have hb1:qO (r6 [(kk,qJ.grow el2 t2.cells n)] H) i=some (.cells v x' toks):=by
      simp only[r6,qO];rw[aSo (Ne.symm hik)];exact hb
     have hR:Rd g1 w (.list t2) l2 [a.eval y]:=k4 _ ⟨_,by rw[k2];exact h1,rfl,h2⟩;obtain⟨heff,hth⟩:=rL.store (side:=[]) (rds:=[i]) (k:=none) (v:=a.eval y) k3.heap hb1 (by rw[k1];exact hp) hset hR trivial (fun _ _ _=>rfl) (fun _=>rfl);have hce:(a.eval y).cells= #[a.eval y]:=by rcases h2 with⟨h2,_⟩ |⟨_,_,h2,_⟩<;>(rw[h2];rfl)
     refine rH.skip (w':=w.setCells p.1 (p.2+off) [a.eval y]) ?_ (rL.trans (side:=[n=n]) (rds:=[i,kk]) k3 heff);obtain⟨inf,hi,hsz,_⟩:=DU hty;have hcells:=run_storeCells_cells (P:=P) p.1 (p.2+off) [a.eval y] 0 w (fun j hj=>by simpa using(hth j hj).1) (fun j hj=>by simpa using(hth j hj).2) (fun v hv=>A1 hR v hv);simp only[aTv] at hcells;have hs2:(a.eval y).cells.size=inf.size:=by rw[hsz,hce];rfl
     have hcl:(a.eval y).cells.toList=[a.eval y]:=by rw[hce]
     simp only[execOp,ho,hv,Instr.storeAt,Instr.sureAddr,storeVar,aSz,aSN,aSu,sizeOf,typeInfo,aTg,hi,hs2,ne_eq,not_true_eq_false,aUt,hcl,hcells]
   case inr.inl hq=>
    replace hr:=hq;generalize hset:yB el u (some (kk,n)) v x' off=oz at hr;cases oz with
    |none=>cases hr
    |some z'=>
     cases hr;have hty:=sZ hT hst;obtain⟨p,hp,hv⟩:=xC hx.1;obtain⟨h1,h2⟩:=hy.1;have hR:Rd g w (.rl el u) (some (kk,n)) [a.eval y]:=⟨_,h1,rfl,h2⟩;obtain⟨heff,hth⟩:=zQ.openS (side:=[]) (rds:=[1000000000,i]) hH hb hp hset hR rfl rfl;have hce:(a.eval y).cells= #[a.eval y]:=by rcases h2 with⟨h2,_⟩ |⟨_,_,h2,_⟩<;>(rw[h2];rfl)
     refine rH.skipW (w':=w.setCells p.1 (p.2+off) [a.eval y]) ?_ heff;obtain⟨inf,hi,hsz,_⟩:=DU hty;have hcells:=run_storeCells_cells (P:=P) p.1 (p.2+off) [a.eval y] 0 w (fun j hj=>by simpa using(hth j hj).1) (fun j hj=>by simpa using(hth j hj).2) (fun v hv=>A1 hR v hv);simp only[aTv] at hcells;have hs2:(a.eval y).cells.size=inf.size:=by rw[hsz,hce];rfl
     have hcl:(a.eval y).cells.toList=[a.eval y]:=by rw[hce]
     simp only[execOp,ho,hv,Instr.storeAt,Instr.sureAddr,storeVar,aSz,aSN,aSu,sizeOf,typeInfo,aTg,hi,hs2,ne_eq,not_true_eq_false,aUt,hcl,hcells]
   replace hr:=hq;generalize hset:sL (.rl el u) (some (kk,n)) v x' off=oz at hr;cases oz with
   |none=>cases hr
   |some z'=>
    cases hr;have hty:=sZ hT hst;obtain⟨p,hp,hv⟩:=xC hx.1;obtain⟨h1,h2⟩:=hy.1;have hR:Rd g w (.rl el u) (some (kk,n)) [a.eval y]:=⟨_,h1,rfl,h2⟩;obtain⟨heff,hth⟩:=rL.store (side:=[]) (rds:=[i]) (k:=none) (v:=a.eval y) hH hb hp hset hR trivial (fun _ _ _=>rfl) (fun _=>rfl);have hce:(a.eval y).cells= #[a.eval y]:=by rcases h2 with⟨h2,_⟩ |⟨_,_,h2,_⟩<;>(rw[h2];rfl)
    refine rH.skip (w':=w.setCells p.1 (p.2+off) [a.eval y]) ?_ heff;obtain⟨inf,hi,hsz,_⟩:=DU hty;have hcells:=run_storeCells_cells (P:=P) p.1 (p.2+off) [a.eval y] 0 w (fun j hj=>by simpa using(hth j hj).1) (fun j hj=>by simpa using(hth j hj).2) (fun v hv=>A1 hR v hv);simp only[aTv] at hcells;have hs2:(a.eval y).cells.size=inf.size:=by rw[hsz,hce];rfl
    have hcl:(a.eval y).cells.toList=[a.eval y]:=by rw[hce]
    simp only[execOp,ho,hv,Instr.storeAt,Instr.sureAddr,storeVar,aSz,aSN,aSu,sizeOf,typeInfo,aTg,hi,hs2,ne_eq,not_true_eq_false,aUt,hcl,hcells]
  cases hr
 .rename_i ti i off _ d _;generalize hb:qO H i=ob at hr;generalize hty0:ti.ty=ty0 at hr;unfold ZJ at hr;split at hr
  case h_2=>cases hr
  rename_i v x' toks;generalize hden:TU i d (TT (CA v x' 8)) (TT (CA v x' 11))=od at hr;cases od with
  |none=>cases hr
  |some q=>
   obtain⟨sd,yy⟩:=q;simp only[ZI] at hr;generalize hset:sL .ap yy v x' off=oz at hr;cases oz with
   |none=>cases hr
   |some z'=>
    simp only[ZH,aSm] at hr;subst hr;have hty:=sZ hT hst;obtain⟨p,hp,hv⟩:=xC hx.1;have hR:Rd g w .ap yy [a.eval y]:=aI1 hden hside hy.1;obtain⟨heff,hth⟩:=rL.store (side:=sd) (rds:=[i]) (k:=none) (v:=a.eval y) hH hb hp hset hR trivial (fun _ _ _=>rfl) (fun _=>rfl);have hce:(a.eval y).cells= #[a.eval y]:=by
     obtain⟨b,u,e1,_⟩:=hy.1;rw[e1];rfl
    refine rH.skip (w':=w.setCells p.1 (p.2+off) [a.eval y]) ?_ heff;obtain⟨inf,hi,hsz,_⟩:=DU hty;have hcells:=run_storeCells_cells (P:=P) p.1 (p.2+off) [a.eval y] 0 w (fun j hj=>by simpa using(hth j hj).1) (fun j hj=>by simpa using(hth j hj).2) (fun v hv=>A1 hR v hv);simp only[aTv] at hcells;have hs2:(a.eval y).cells.size=inf.size:=by rw[hsz,hce,hty0];rfl
    have hcl:(a.eval y).cells.toList=[a.eval y]:=by rw[hce]
    simp only[execOp,ho,hv,Instr.storeAt,Instr.sureAddr,storeVar,aSz,aSN,aSu,sizeOf,typeInfo,aTg,hi,hs2,ne_eq,not_true_eq_false,aUt,hcl,hcells]
 .rename_i ti k n c i o' _ u z kk;split at hr
  .rename_i hu;subst hu;generalize hk:qO H k=ob at hr;unfold TV at hr;split at hr
   .rename_i e' t' l m;split at hr
    .rename_i hc;generalize hset:sL ti.ty z t' (qT t' l i) o'=oz at hr;cases oz with
     |none=>cases hr
     |some z'=>
      cases hr;have hnm:=hside _ (aSI.2 rfl);obtain⟨b,cap,xs,c1,c2,c3,hv,hcur,hown,hF,hl,hi,h0,e1,e2,e3,e4⟩:=a9U hT hH hx.1 hk hnm hc;subst hnm;have hty:=sZ hT hst;obtain⟨hvy,hky⟩:=a0Q hT hH hy;have hR:=F7 hvy;have hRl:=sV hR;obtain⟨d1,d2,d3,f1,f2,f3,f4⟩:=Q8 hR e4 hset;obtain⟨_,_,_,_,hv0,hown0,_,hnone,hseal⟩: ∃(_:True) (_:True) (v0:qB) (xs0:pX),g.cur k n=some v0/\w.ownsRow 0 e' t'.cells v0 n xs0/\tT (Rd g w t') t'.cells l xs0/\(∀m,n<m->g.cur k m=none)/\∀b,v0.ownBlock=some b->∀o,¬g.S b o:=by
       obtain⟨_,v0,xs0,q1,q2,q3,q4,q5⟩:=hH.blk k _ hk;exact⟨trivial,trivial,v0,xs0,q1,q2,q3,q4,q5⟩
      rw[hcur] at hv0;obtain rfl:=aSr hv0;rcases hown.2 with⟨h5,_⟩ |⟨q,cap',cur,h5,_,hg,hnc,hcm,hcs,htake⟩
      .cases h5
      simp only[aT3,aSm,Addr.mk.injEq,and_true,true_and] at h5;obtain⟨rfl,rfl⟩:=h5;have hxl:=hown.1;have hnew:=sV f4;simp only[aSp] at hnew;have hc2l:c2.length=t'.cells:=by rw[e3,hc]
      have hd:d1.length+d2.length+d3.length=t'.cells:=by rw[<-hc2l,f1];simp only[aSp]
      have hx1:c1.length+c2.length+c3.length=n*t'.cells:=by rw[<-hxl,e1];simp only[aSp]
      have hall:cur.toList=(c1++(d1++d2++d3)++c3)++cur.toList.drop (n*t'.cells):=by
       conv=>lhs;rw[<-aTz (n*t'.cells) cur.toList,htake,e1,f1]
      obtain⟨D,hD⟩: ∃D,D=cur.toList.drop (n*t'.cells):=⟨_,rfl⟩;rw[<-hD] at hall;have hall2:cur.toList=(c1++d1)++(d2++(d3++c3++D)):=by rw[hall];simp only[aSB]
      have hpos:i.toNat*c+o'=(c1++d1).length:=by rw[aSp,e2,f2]
      have hD2:(a.eval y).cells.toList.length=d2.length:=by rw[hRl,f3]
      have hfit:i.toNat*c+o'+0+(a.eval y).cells.toList.length<=cur.size:=by
       have:cur.size=cur.toList.length:=by simp
       rw[this,hall2,aTv,hpos,hD2];simp only[aSp];omega
      have hst2:=run_storeCells_at P b (i.toNat*c+o') e' (a.eval y).cells.toList 0 cur w hg hfit (fun v hv=>A1 hR v hv);have hrow:cur.toList.take (i.toNat*c+o'+0)++(a.eval y).cells.toList++cur.toList.drop (i.toNat*c+o'+0+(a.eval y).cells.toList.length)=(c1++(d1++(a.eval y).cells.toList++d3)++c3)++D:=by
       rw[aTv,hpos,hD2,hall2,aTK,List.drop_append,List.drop_of_length_le pQ,List.nil_append,aTb,List.drop_left];simp only[aSB]
      rw[hrow] at hst2;obtain⟨inf,hinf,hsz,_⟩:=DU hty;have hs2:(a.eval y).cells.size=inf.size:=by rw[hsz,<-hRl,aTe]
      have hnewlen:((c1++(d1++(a.eval y).cells.toList++d3)++c3)++D).length=cur.size:=by
       have:cur.size=cur.toList.length:=by simp
       rw[this,hall];simp only[aSp];omega
      have hxs':(c1++(d1++(a.eval y).cells.toList++d3)++c3).length=n*t'.cells:=by
       rw[<-hx1];simp only[aSp];rw[f1];simp only[aSp];omega
      have hown':(w.setRow b ((c1++(d1++(a.eval y).cells.toList++d3)++c3)++D).toArray).ownsRow 0 e' t'.cells (.slice (some ⟨b,0,none⟩) n cap) n (c1++(d1++(a.eval y).cells.toList++d3)++c3):=
       ⟨hxs',.inr ⟨b,cap,_,rfl,aTo _,aUy w b cur _ e' _ hg,hnc,hcm,by rw[aTp,hnewlen,hcs],by rw[<-hxs'];exact aTK⟩⟩
      have hF':tT (Rd g w t') t'.cells (l.set i.toNat z') (c1++(d1++(a.eval y).cells.toList++d3)++c3):=by
       obtain⟨q1,q2,q3,r1,r2,r3,r4⟩:=UZ hF f4 (sV f4) hi;have s1:q1=c1/\q2=c2/\q3=c3:=by
        have h6:q1++(q2++q3)=c1++(c2++c3):=by rw[<-aSB,<-r1,e1,aSB]
        obtain⟨h7,h8⟩:=aT4 h6 (by rw[r2,e2,hc]);obtain⟨h9,h10⟩:=aT4 h8 (by rw[r3,e3,hc]);exact⟨h7,h9,h10⟩
       obtain⟨rfl,rfl,rfl⟩:=s1;exact r4
      have hownk: ∀o,sU g H [k] b o:=fun o=>⟨k,_,by simp,hk,_,hcur,rfl⟩;refine rH.skip (w':=w.setRow b ((c1++(d1++(a.eval y).cells.toList++d3)++c3)++D).toArray) ?_ (rL.row (v:= .slice (some ⟨b,0,none⟩) n cap) hH (by rw[List.length_set];exact hl) hown' hF' hnone (fun u hu=>by rw[hcur] at hu;exact(aSr hu).symm)
       (.inr ⟨some b,⟨rfl,rfl,rfl,by simp,fun q _ hq=>aUc w b q _ (fun e=>hq (by rw[e]))⟩,fun b' hb' o=>by cases hb';exact hownk o⟩) (fun b' o hS=>?_) hseal (fun b' hb'=>by cases hb';exact .inr hownk) ⟨trivial,trivial⟩)
      .simp only[execOp,ho,hv,Instr.storeAt,Instr.sureAddr,storeVar,aSz,aSN,aSu,sizeOf,typeInfo,aTg,hinf,hs2,ne_eq,not_true_eq_false,aUt,hst2]
      have hne:b'≠b:=fun e=>hseal b rfl o (e▸hS);exact aSL (a:=⟨b',o,none⟩) (aUc w b b' _ hne)
    cases hr
   cases hr
  cases hr
 .rename_i ti i off k u z kk;split at hr
  .rename_i hu;subst hu;generalize hb:qO H i=ob at hr;have hty:=sZ hT hst;obtain⟨p,hp,hv⟩:=xC hx.1;obtain⟨hvy,hky⟩:=a0Q hT hH hy;have hR:=F7 hvy;have hone:ti.ty.isRow=false->(a.eval y).cells.toList=[a.eval y]:=fun hrow=>by
    have h1:=A1 (xB hrow hvy) _ (aSI.2 rfl);cases h:a.eval y<;>first|rfl|(rw[h] at h1;simp [Value.oneCell'] at h1)
   have hrun:w.there p.1 (p.2+off) (a.eval y).cells.toList.length->(execOp a.eval o).run P w= .ok .skip (w.setCells p.1 (p.2+off) (a.eval y).cells.toList):=by
    intro hth;obtain⟨inf,hi,hsz,_⟩:=DU hty;have hlen:=sV hR;have hcells:=run_storeCells_cells (P:=P) p.1 (p.2+off) (a.eval y).cells.toList 0 w (fun j hj=>by simpa using(hth j hj).1) (fun j hj=>by simpa using(hth j hj).2) (fun v hv=>A1 hR v hv);simp only[aTv] at hcells;have hs2:(a.eval y).cells.size=inf.size:=by rw[hsz,<-hlen,aTe]
    simp only[execOp,ho,hv,Instr.storeAt,Instr.sureAddr,storeVar,aSz,aSN,aSu,sizeOf,typeInfo,aTg,hi,hs2,ne_eq,not_true_eq_false,aUt,hcells]
   have fin: ∀{e0:qS}{g1:Gh}{w':q9}{j:Nat}{v:Ty}{zz:v.den}{ts:pV}{U:List (Nat×qJ)},GE base i off ob ti.ls ti.ty z kk=some e0->e0.upd=(j,.cells v zz ts)::U->e0.side=[]->e0.slot=(.any,none)->(execOp a.eval o).run P w= .ok .skip w'->rL g w H e0 g1 w' undef->rH P o a g w H e:=by
    intro e0 g1 w' j v zz ts U h0 h1 h2 h3 h5 h6;rw[h0] at hr;cases hb':KH ti.ty with
    |false=>
     rw[hb'] at hr;cases hr;exact rH.skip h5 h6
    |true=>
     rw[hb'] at hr;obtain⟨_,g',h7⟩:=aI0 hH hr h1 h2 h3 h6 (fun q hq hle=>hf q hq pQ);exact rH.skip h5 h7
   obtain⟨e0,hr0⟩: ∃e0,GE base i off ob ti.ls ti.ty z kk=some e0:=by
    cases h:GE base i off ob ti.ls ti.ty z kk with
    |some e0=>exact⟨e0,rfl⟩
    |none=>
     rw[h] at hr;cases hb':KH ti.ty<;>rw[hb'] at hr<;>cases hr
   have hf0: ∀q,q∈qQ e0.upd->q∈qQ e.upd:=by
    rw[hr0] at hr;cases hb':KH ti.ty with
    |false=>rw[hb'] at hr;cases hr;exact fun _ h=>h
    |true=>
     rw[hb'] at hr;obtain⟨sd,s,up,rd⟩:=e0;simp only[ZG] at hr;unfold PU at hr;split at hr
     .rename_i heq;cases heq;split at hr
      case isFalse=>cases hr
      generalize hzz:BM _ _ _ _=ozz at hr;cases ozz with
      |none=>cases hr
      |some z2=>
       simp only[TQ,aSm] at hr;subst hr;intro q hq;simp only[qQ,aSC];right;rw[CI];exact .inr hq
     cases hr
   replace hf:xV g base e0:=fun q hq hle=>hf q (hf0 q hq) hle;rcases aIY hr0 with⟨s,x',toks,z',hb',hset,hsome,⟨pa,pb,hpair⟩,mk_,hmk,hok,rfl⟩ |hr1
   .rw[hb'] at hb;have hn:xS mk_ ti.ty 0 (a.eval y).cells.toList:=by
     obtain⟨m',e1,e2⟩:=aIX hsome hpair hky;rw[hmk] at e1;obtain rfl:=aSr e1;exact e2
    have hlx:=fun q hq=>V2 (k:=mk_) (ls:=ti.ls) (q:=q) hq;generalize CD mk_ ti.ls=lsm at hf hok hlx hr0;obtain⟨heff,hth⟩:=rL.store (side:=[]) (rds:=[i]) (k:=none) (v:=undef) hH hb hp hset hR trivial (fun _ _ _=>rfl) (fun h=>by rw[hpair] at h;cases h);have hfr: ∀j,base<=j->j<base+lsm.length->∀n,g.cur j n=none:=fun j h1 h2=>(hf j (by
     simp only[qQ,aSC];right;rw[CI];exact .inl ((QF _ base j).2 ⟨h1,h2⟩)) h1).2
    obtain⟨g1,k1,k2,k3,k4⟩:=a0I lsm base g _ heff.heap hfr;have e2:=rL.trans (side:=[]) (rds:=[]) heff k1;have hib:i<base:=by
     rcases aTE i base with h|h
     .exact h
     have:=(hf i (by simp [qQ]) h).1;rw[hp] at this;cases this
    have hiN:i∉qQ (DP lsm base):=fun h=>by
     have:=(QF _ base i).1 h;omega
    have hb3:qO (r6 (r6 (DP lsm base) [(i,qJ.cells s z' (tH toks off ti.ty.cells))]) H) i=some (.cells s z' (tH toks off ti.ty.cells)):=by
     rw[KZ,A3 hiN];simp [r6,qO]
    have hyl:=sV hR;have e3:=rL.retok (p:=p) (nt:=N2 off (CC lsm base)) e2.heap hb3 (by rw[k2];exact hp) (fun cs hRz hra o k hm=>by
     obtain⟨q,rfl,hq⟩:=a96 hm;obtain⟨en,he,rfl⟩:=a0J hq;obtain⟨u,h1,h2⟩:=a9M hn hR (a0K hok en he) (by have:=hlx en he;omega);have hql:en.1<(a.eval y).cells.toList.length:=(aSD.1 h2).1;have h3:=a97 hset h1 pQ;refine⟨u,[],.slice none 0 0,h3,?_,k3 _ _ hq⟩;have hlen:=sV hRz;have hlt:=a98 h3;have hc:cs[off+en.1]? =some cs[off+en.1]:=aSv pQ;have hr1:=hra _ _ hc;have hr2:=aTS p.1 (a.eval y).cells.toList (p.2+off) w (fun j hj=>(hth j hj).1) en.1 hql;rw[aS5] at hr2;rw[hr2] at hr1;rw[hc,<-hr1,<-h2,aSv hql])
    exact fin (w':=w.setCells p.1 (p.2+off) (a.eval y).cells.toList) hr0 rfl rfl rfl (hrun hth) (rL.trans (side:=[]) (rds:=[i]) e2 e3)
   cases ob with
   |none=>cases hr1
   |some bl=>
   cases bl with
   |cells s q toks=>
    simp only[TO] at hr1;generalize hset:sL ti.ty z s q off=oz at hr1;cases oz with
    |none=>cases hr1
    |some z'=>
     simp only[N1,aSm] at hr1;subst hr1;obtain⟨heff,hth⟩:=rL.store (side:=[]) (rds:=[i]) hH hb hp hset hR (aIW hky) (fun a b e=>by rw[e];rfl) hone;exact fin (w':=w.setCells p.1 (p.2+off) (a.eval y).cells.toList) hr0 rfl rfl rfl (hrun hth) heff
   |_=>cases hr1
  cases hr
 cases hr
omit hT in
theorem rL.poke {k:Nat}{e:TypeId}{t:Ty}{l:List t.den}{m:Nat}(hk:qO H k=some (.row e t l m)) {b cap:Nat}(hcur:g.cur k m=some (.slice (some ⟨b,0,none⟩) m cap)) {i:Int}(h0:0<=i) (h1:i<(m:Int)) {o':Nat}{uT:Ty}{y:uT.den}{z':t.den}(hset:sL uT y t (qT t l i) o'=some z') {u:qB}(hy:Rd g w uT y [u]):
  rL g w H ⟨[],(.any,none),[(k,.row e t (l.set i.toNat z') m)],[]⟩ (g.tok k m (.slice (some ⟨b,0,none⟩) m cap)) (w.setCells b (i.toNat*t.cells+o') [u]) undef:=by
 obtain⟨hl,v0,xs,hv0,hown,hF,hnone,hseal⟩:=hH.blk k _ hk;rw[hcur] at hv0;obtain rfl:=aSr hv0;have hi:i.toNat<l.length:=by rw[hl];omega
 obtain⟨c1,c2,c3,e1,e2,e3,e4⟩:=UX hF (a9Q h0 hi);obtain⟨d1,d2,d3,f1,f2,f3,f4⟩:=Q8 hy e4 hset;rcases hown.2 with⟨h5,_⟩ |⟨q,cap',cur,h5,_,hg,hnc,hcm,hcs,htake⟩
 .cases h5
 simp only[aT3,aSm,Addr.mk.injEq,and_true,true_and] at h5;obtain⟨rfl,rfl⟩:=h5;have hxl:=hown.1;have hnew:=sV f4;have hyl:=sV hy;simp only[aSp,aTr] at hnew hyl;have hd:d1.length+d2.length+d3.length=t.cells:=by rw[<-e3,f1];simp only[aSp]
 have hx1:c1.length+c2.length+c3.length=m*t.cells:=by rw[<-hxl,e1];simp only[aSp]
 have hall:cur.toList=(c1++(d1++d2++d3)++c3)++cur.toList.drop (m*t.cells):=by
  conv=>lhs;rw[<-aTz (m*t.cells) cur.toList,htake,e1,f1]
 obtain⟨D,hD⟩: ∃D,D=cur.toList.drop (m*t.cells):=⟨_,rfl⟩;rw[<-hD] at hall;obtain⟨x2,rfl⟩: ∃x2,d2=[x2]:=aTF.1 pQ;have hall2:cur.toList=(c1++d1)++(x2::(d3++c3++D)):=by rw[hall];simp only[aSB,List.cons_append,List.nil_append]
 have hpos:i.toNat*t.cells+o'=(c1++d1).length:=by rw[aSp,e2,f2]
 have hw:w.setCells b (i.toNat*t.cells+o') [u]=w.setRow b ((c1++(d1++[u]++d3)++c3)++D).toArray:=by
  show w.setCell ⟨b,i.toNat*t.cells+o',none⟩ u=_;rw[setCell_eq_setRow w b _ cur e (0,0) u hg];congr 1;apply aTt.1;rw[Array.toList_setIfInBounds,hall2,hpos,List.set_append_right _ _ (aSJ _),aTT,List.set_cons_zero];simp only[aSB,List.cons_append,List.nil_append]
 have hnewlen:((c1++(d1++[u]++d3)++c3)++D).length=cur.size:=by
  have:cur.size=cur.toList.length:=by simp
  rw[this,hall];simp only[aSp,aTr]
 have hxs':(c1++(d1++[u]++d3)++c3).length=m*t.cells:=by
  rw[<-hx1,f1];simp only[aSp,aTr]
 have hown':(w.setRow b ((c1++(d1++[u]++d3)++c3)++D).toArray).ownsRow 0 e t.cells (.slice (some ⟨b,0,none⟩) m cap) m (c1++(d1++[u]++d3)++c3):=
  ⟨hxs',.inr ⟨b,cap,_,rfl,aTo _,aUy w b cur _ e _ hg,hnc,hcm,by rw[aTp,hnewlen,hcs],by rw[<-hxs'];exact aTK⟩⟩
 have hF':tT (Rd g w t) t.cells (l.set i.toNat z') (c1++(d1++[u]++d3)++c3):=by
  obtain⟨q1,q2,q3,r1,r2,r3,r4⟩:=UZ hF f4 (sV f4) hi;have s1:q1=c1/\q2=c2/\q3=c3:=by
   have h6:q1++(q2++q3)=c1++(c2++c3):=by rw[<-aSB,<-r1,e1,aSB]
   obtain⟨h7,h8⟩:=aT4 h6 (by rw[r2,e2]);obtain⟨h9,h10⟩:=aT4 h8 (by rw[r3,e3]);exact⟨h7,h9,h10⟩
  obtain⟨rfl,rfl,rfl⟩:=s1;exact r4
 have hownk: ∀o,sU g H [k] b o:=fun o=>⟨k,_,by simp,hk,_,hcur,rfl⟩;rw[hw];refine rL.row (v:= .slice (some ⟨b,0,none⟩) m cap) hH (by rw[List.length_set];exact hl) hown' hF' hnone (fun u hu=>by rw[hcur] at hu;exact(aSr hu).symm)
  (.inr ⟨some b,⟨rfl,rfl,rfl,by simp,fun q _ hq=>aUc w b q _ (fun e=>hq (by rw[e]))⟩,fun b' hb' o=>by cases hb';exact hownk o⟩) (fun b' o hS=>?_) hseal (fun b' hb'=>by cases hb';exact .inr hownk) ⟨trivial,trivial⟩
 have hne:b'≠b:=fun e=>hseal b rfl o (e▸hS);exact aSL (a:=⟨b',o,none⟩) (aUc w b b' _ hne)
omit hT in
theorem rL.below {w1:q9}(h:Below w.heap.size w w1):rL g w H ⟨[],(.any,none),[],[]⟩ g w1 undef:=by
 have le:Le g w g w1:=⟨fun _ _ h=>h,fun b o hS=>aSL (a:=⟨b,o,none⟩) (h.block b (hH.sl b o hS)),fun _ _ h=>h,fun _ _ _ h=>h⟩;have fr:Fr (sU g H (qQ [])) w w1 g.S g.S:=⟨h.os,h.tape,h.output,h.size,fun b hb _=>h.block b hb,fun b o hb _=>⟨aSL (a:=⟨b,o,none⟩) (h.block b hb),aS9 (a:=⟨b,o,none⟩) (h.block b hb)⟩,fun _ _ h=> .inl h,fun b s hs=> .inl ((BT (h.block b (BS hs))).trans hs)⟩;exact⟨le,⟨trivial,trivial⟩,hH.upd le fr (fun _ _ _ _ hi=>(by cases hi)) (fun _ _=>⟨rfl,rfl⟩) (fun _ _ hi=>(by cases hi)) (fun _ _ _ _ _ _ hi=>(by cases hi)) (fun b o hS=>aSY (hH.sl b o hS) h.size),fr,fun _ _ _ _ hi=>(by cases hi),fun _ _=>⟨rfl,rfl⟩,fun _ _ y us h=> .inl ⟨y,us,h⟩⟩
theorem aAc {t:Ty}{n:Nat}{ev:Operand->qB}{ρ:Operand->qM}: ∀(ps:List (Nat×Operand)) (l z:List t.den) (cs:pX),tT (Rd g w t) t.cells l cs->l.length=n->(∀q∈ps,rO g w (ρ q.2) (ev q.2))->BI t n (some l) (u1 ρ ps)=some z->
  ∃cs',Instr.fill (fun i=>some (i*t.cells,t.cells)) cs.toArray (ps.map fun q=>(q.1,ev q.2))=some cs'.toArray/\tT (Rd g w t) t.cells z cs'/\z.length=n
 |[],l,z,cs,r,hl,_,h=>by
  simp only[u1,BI,aSm] at h;subst h;exact⟨cs,rfl,r,hl⟩
 |(i,q)::ps,l,z,cs,r,hl,hq,h=>by
  have h0:=hq (i,q) pS;generalize hs:ρ q=s at h0;simp only[u1,hs] at h;obtain⟨d,k⟩:=s;cases d with
  |val u y=>
   simp only[BI,a8N] at h;by_cases hc:u=t/\i<n
   .rw[aUm hc] at h;obtain⟨rfl,hi⟩:=hc;simp only[tV] at h;have hR:=F7 h0.1;obtain⟨c1,c2,c3,rfl,h2,h3,h4⟩:=UZ (i:=i) r hR (sV hR) pQ;obtain⟨cs',k1,k2,k3⟩:=aAc ps (l.set i y) z _ h4 (by simpa using hl) (fun q hq'=>hq q (by simp [hq'])) h;refine⟨cs',?_,k2,k3⟩;simp only[aTw];rw[a9L rfl (by have:=sV hR;simpa using this) (c1:=c1) (c2:=c2) (c3:=c3) pS h2 h3];exact k1
   .rw[aTP hc] at h;cases ps with
    |nil=>simp [u1,BI] at h
    |cons p ps=>simp [u1,BI] at h
  |_=>simp [BI] at h
theorem a0R {t:TypeId}{n:Nat}{ps:Array (Nat×Operand)}(ho:o.op= .buildSlice t n ps) {ρ:Operand->qM}(hρ: ∀q∈ps.toList,rO g w (ρ q.2) (a.eval q.2)) {u:Ty}{el:TypeId}{by':Nat}{ar:Bool}{ls:List (Nat×TypeId×Nat)}(hst:rR T t=some ⟨.list u,el,by',ar,ls⟩) {l:List u.den}
  (hb:BI u n (some (D7 u n)) (u1 ρ ps.toList)=some l) (hn:n<=16777216/\n*u.cells<=16777216):
  ∃cs':pX,tT (Rd g w u) u.cells l cs'/\l.length=n/\(execOp a.eval o).run P w= .ok (.value (.slice (some ⟨w.heap.size,0,none⟩) n n)) (w.alloc (.cells cs'.toArray el)):=by
    obtain⟨h2,h3,_⟩:=(sZ hT hst).2;obtain⟨ei,hei,hz⟩:=aSE.1 h3;simp only[aSQ] at hz;obtain⟨cs',k1,k2,k3⟩:=aAc hT hH ps.toList (D7 u n) l _ (a9Z n) (a90 u n) hρ hb;refine⟨cs',k2,k3,?_⟩;have hzc:(xT u).cells=(tX u).toArray:=by
     unfold xT;cases h:u<;>simp [Ty.isRow,tX,Value.cells]
    have hmap:(ps.map fun(q:Nat×Operand)=>(q.1,a.eval q.2)).toList=ps.toList.map fun q=>(q.1,a.eval q.2):=by simp
    have hzl:(tX u).length=u.cells:=sV (DS g w u);have hrow: ∀z:Array qB,(n*u.cells≠0->z=(tX u).toArray)->(Array.range (n*u.cells)).map (fun i=>z[i%z.size]!)=(List.flatten (List.replicate n (tX u))).toArray:=by
     intro z hz0;by_cases h0:n*u.cells=0
     .rw[h0];have:List.flatten (List.replicate n (tX u))=[]:=aSS (by simp [hzl,h0]);rw[this];simp
     rw[hz0 h0];have hpos:0<u.cells:=Nat.pos_of_ne_zero (fun h=>h0 (by rw[h];simp));apply aTt.1;apply List.ext_getElem?;intro j;have key: ∀(m j:Nat),j<m*u.cells->(List.flatten (List.replicate m (tX u)))[j]? =(tX u)[j%u.cells]? :=by
      intro m
      induction m with
      |zero=>intro j h;simp at h
      |succ m ih=>
       intro j h;rw[List.replicate_succ,aTh];by_cases hj:j<u.cells
       .rw[aSG pQ,Nat.mod_eq_of_lt hj]
       rw[aSw pQ,hzl,ih (j-u.cells) (by rw[aTy] at h;omega)];congr 1
       conv=>rhs;rw[<-Nat.sub_add_cancel (Nat.le_of_not_lt hj),Nat.add_mod_right]
     by_cases hj:j<n*u.cells
     .have hm:j%u.cells<(tX u).length:=by rw[hzl];exact Nat.mod_lt _ hpos
      simp only[Array.toList_map,Array.toList_range,List.getElem?_map,List.getElem?_range hj,Option.map_some,aTp,hzl];rw[key n j hj,aSv hm];simp [getElem!_pos,hm]
     rw[aTM pT,aTM (by simp [hzl];omega)]
    have hlim: ¬(n*u.cells>2^24):=by have:=hn.2;omega
    by_cases h0:n*u.cells=0
    .simp only[execOp,ho,Instr.buildSlice,aSz,aSK h2,aSu,sizeOf,typeInfo,aTg,hei,hz.1,aSN,aSo hlim,aSn h0];rw[hrow #[] (fun h=>absurd h0 h),hmap,k1];simp only[newRow,aSz,run_newObj,aSu,aSN];rfl
    simp only[execOp,ho,Instr.buildSlice,aSz,aSK h2,aSu,sizeOf,typeInfo,aTg,hei,hz.1,aSN,aSo hlim,aSo h0,zeroValue,hz.2.2,hzc];rw[hrow (tX u).toArray (fun _=>rfl),hmap,k1];simp only[newRow,aSz,run_newObj,aSu,aSN];rfl
theorem aI3 {t:TypeId}{n:Nat}{ps:Array (Nat×Operand)}(ho:o.op= .buildSlice t n ps) {ρ:Operand->qM}(hρ: ∀q∈ps.toList,rO g w (ρ q.2) (a.eval q.2)) {base:Nat}{e:qS}(hr:Z8 base n (u1 ρ ps.toList) (rR T t)=some e) (hf:xV g base e):rH P o a g w H e:=by
 generalize hst:rR T t=ot at hr;unfold Z8 at hr;split at hr
 .rename_i u el by' ls_;split at hr
  .rename_i hn0;generalize hb:BI u n (some (D7 u n)) (u1 ρ ps.toList)=ol at hr;cases ol with
   |none=>cases hr
   |some l=>
    simp only[a83] at hr;split at hr
    .rename_i hn;cases hr;obtain⟨cs',k2,k3,hrun⟩:=a0R hT hH ho hρ hst hb hn.2;have hfr:=(hf base (by simp [qQ]) (aSJ _)).2;have hlen:=KW k2;have hown:(w.alloc (.cells cs'.toArray el)).ownsRow 0 el u.cells (.slice (some ⟨w.heap.size,0,none⟩) n n) n cs':=⟨by rw[hlen,k3],.inr ⟨w.heap.size,n,cs'.toArray,rfl,aTo _,aUv w _,aSJ _,by unfold maxLen;omega,by simp [hlen,k3],by simp [<-k3,<-hlen]⟩⟩;refine rH.value hrun (rL.row (v:= .slice (some ⟨w.heap.size,0,none⟩) n n) (xs:=cs') hH k3 hown k2 (fun m _=>hfr m) (fun u hu=>by rw[hfr] at hu;cases hu) (.inl (World.grownBy_alloc w _ _)) (fun b o h=>aSL (a:=⟨b,o,none⟩) (aST _ _ _ (hH.sl b o h))) (fun b hb o hs=>?_) (fun b hb=>?_) ⟨⟨by simp [Gh.tok],.inr ⟨_,_,rfl,aSJ _⟩⟩,trivial⟩)
     .cases hb;exact aUh _ (hH.sl _ _ hs)
     cases hb;exact .inl (aSJ _)
    cases hr
  rename_i hn0;generalize hb:BI u n (some (D7 u n)) (u1 ρ ps.toList)=ol at hr;cases ol with
  |none=>cases hr
  |some l=>
   simp only[TF] at hr;split at hr
   .rename_i hn;cases hr;obtain⟨cs',k2,k3,hrun⟩:=a0R hT hH ho hρ hst hb hn;have hfr:=hf base (by simp [qQ]) (aSJ _);exact rH.value (v:= .slice (some ⟨w.heap.size,0,none⟩) n n) (w':=w.alloc (.cells cs'.toArray el)) hrun (rL.lit hH rfl k3 k2 (by unfold maxLen;omega) hfr.2)
   cases hr
 .rename_i u el by' ls_;generalize hb:BI u n (some (D7 u n)) (u1 ρ ps.toList)=ol at hr;cases ol with
  |none=>cases hr
  |some l=>
   simp only[TF] at hr;split at hr
   .rename_i hn;cases hr;obtain⟨cs',k2,k3,hrun⟩:=a0R hT hH ho hρ hst hb hn;have hfr:=hf base (by simp [qQ]) (aSJ _);exact rH.value (v:= .slice (some ⟨w.heap.size,0,none⟩) n n) (w':=w.alloc (.cells cs'.toArray el)) hrun (rL.lit hH rfl k3 k2 (by unfold maxLen;omega) hfr.2)
   cases hr
 cases hr
theorem aI4 {args:Array Operand}{tys:Array TypeId}(ho:o.op= .call ⟨.builtin .append,args,tys⟩) {ρ:Operand->qM}(hρ: ∀x∈args.toList,rO g w (ρ x) (a.eval x)) {e:qS}
  {t:TypeId}(htt:tys= #[t,t]) (hr:U4 H (rR T t) (vN ρ args.toList)=some e) (hs: ∀p∈e.side,p):rH P o a g w H e:=by
 subst htt;generalize hst:rR T t=ot at hr;generalize hss:vN ρ args.toList=ss at hr;unfold U4 at hr;split at hr
 .rename_i u el by' ar ls_ k n _ b1 r _;split at hr
  .rename_i hbu;subst hbu;generalize hk:qO H k=ob at hr;unfold U3 at hr;split at hr
   .rename_i e' t' l m;split at hr
    .rename_i hbt;subst hbt;split at hr
     .rename_i hec;obtain⟨rfl,hpos,hb1⟩:=hec;simp only[tV] at hr;cases hr;have hnm:=hs _ (by simp:(n=m)∈_);subst hnm;have hby:=hs _ (by simp:((n+List.length r)*by'<=140737488355328)∈_);obtain⟨v,vr,hv,hs1,hs2⟩:=UW hT hH hρ hss;obtain⟨h2,h3,_⟩:=(sZ hT hst).2;obtain⟨ei,hei,hz⟩:=aSE.1 h3;simp only[aSQ] at hz;obtain⟨cs,hx⟩:=GL (a:=a) hT hH ho;obtain⟨hl,v0,xs,hv0,hown,hF0,hnone,hseal⟩:=hH.blk k _ hk;obtain⟨hcur,hshape⟩:=hs1.1;rw[hv0] at hcur;obtain rfl:=aSr hcur;obtain⟨adr,capr,hvr,hler,hlr⟩:=DT hs2.1;have hlen2:(l++r).length=n+List.length r:=by rw[aSp,hl]
      rw[hlen2];have hownk: ∀q,v0.ownBlock=some q->∀o,sU g H [k] q o:=fun q hq o=>⟨k,_,by simp,hk,v0,hv0,hq⟩;by_cases hm:List.length r=0
      .obtain rfl:r=[]:=aSS hm;refine rH.value (v:=v0) (w':=w) ?_ (rL.row (v:=v0) (xs:=xs) hH hlen2 hown (by rw[List.append_nil];exact hF0) hnone (fun u hu=>by
        have h5:g.cur k n=some u:=hu;rw[hv0] at h5;exact(aSr h5).symm) (.inl ⟨rfl,rfl,rfl,aSJ _,fun _ _ _=>rfl⟩) (fun _ _ _=>rfl) hseal (fun q hq=> .inr (hownk q hq)) ⟨⟨by simp [Gh.tok],hshape⟩,trivial⟩)
       obtain⟨adl,capl,hvl,hlel⟩: ∃adl capl,v0= .slice adl n capl/\n<=capl:=by
        rcases hshape with⟨h,rfl⟩ |⟨b,cap,h,h'⟩
        .exact⟨_,_,h,aSJ _⟩
        exact⟨_,_,h,h'⟩
       rw[hx,hv,hvr,hvl];have ha0:(#[Value.slice adl n capl,Value.slice adr (List.length ([]:List b1.den)) capr]:Array qB)[0]? =some (.slice adl n capl):=rfl;have ha1:(#[Value.slice adl n capl,Value.slice adr (List.length ([]:List b1.den)) capr]:Array qB)[1]? =some (.slice adr 0 capr):=rfl;have ht0:(#[t,t]:Array TypeId)[0]? =some t:=rfl;have ht1:(#[t,t]:Array TypeId)[1]? =some t:=rfl;simp only[builtin,Builtin.append_,ht0,ht1,ha0,ha1,aSz,aSK h2,aSu,aSN,sizeOf,typeInfo,aTg,hei];cases adr<;>cases adl<;>simp [Builtin.lenOf,Builtin.firstCells,loadCells,loadCellsFrom,storeCells,hlel]
      obtain⟨b,off,rfl,hL⟩: ∃b o,adr=some ⟨b,o,none⟩/\yC (Rd g w b1) w g.S b1.cells b o r:=by
       rcases hlr with rfl|h
       .exact absurd rfl hm
       exact h
      obtain⟨news,hF,hra,_⟩:=QD hL;obtain⟨q,cap,w',hrun,hown',hq,hg,hcap,hcell⟩:=a91 (P:=P) w t o.type e' ei (xT b1) b1.cells by' h2 hei hz.2.2 hz.1 hz.2.1 (by
       have:=sV (F7 (L1 g w b1));simpa using this) v0 n xs hown ⟨b,off,none⟩ (List.length r) capr news (KW hF) (fun j u hu=>by rw[aTA];exact hra j u hu) (a0F (fun _ _ h=>A1 h) hF) pQ
       (by
        have:=Nat.mul_le_mul_left (n+List.length r) hb1;unfold maxLen;omega) hby
      refine rH.value (v:= .slice (some ⟨q,0,none⟩) (n+List.length r) cap) (w':=w') ?_ (rL.row (v:= .slice (some ⟨q,0,none⟩) (n+List.length r) cap) (xs:=xs++news) hH hlen2 hown' (a0r hF0 hF) (fun m hm'=>hnone m pQ) (fun u hu=>by
       rw[hnone _ pQ] at hu;cases hu) (.inr ⟨v0.ownBlock,hg,fun b hb o=>hownk b hb o⟩) (fun b o hS=>hcell b o (hH.sl b o hS) (fun hb=>absurd hS (hseal b hb o))) (fun b hb o hS=>?_) (fun b hb=>?_) ⟨⟨by simp [Gh.tok],.inr ⟨q,cap,rfl,hcap⟩⟩,trivial⟩)
      .rw[hx,hv,hvr];simp only[builtin,aSz,hrun,aSu,aSN]
      .cases hb;rcases hq with h|h
       .rw[h] at hS;exact aUh _ (hH.sl _ _ hS)
       exact hseal _ h o hS
      cases hb;rcases hq with h|h
      .exact .inl (aTU h.symm)
      exact .inr (hownk _ h)
     cases hr
    cases hr
   cases hr
  cases hr
 .rename_i u el by' ar ls_ a1 l k b1 r k2;split at hr
  .rename_i hab;obtain⟨rfl,rfl⟩:=hab;simp only[tV] at hr;generalize hk:qO H k=ob at hr;unfold U1 at hr;split at hr
   .rename_i e' c n;split at hr
    .rename_i hec;obtain⟨rfl,hcc,hpos,hb1⟩:=hec;cases hr;rw[aSp];have hln:=hs _ (by simp:(List.length l=n)∈_);have hby:=hs _ (by simp:((List.length l+List.length r)*by'<=140737488355328)∈_);obtain⟨v,vr,hv,hs1,hs2⟩:=UW hT hH hρ hss;obtain⟨h2,h3,_⟩:=(sZ hT hst).2;obtain⟨ei,hei,hz⟩:=aSE.1 h3;simp only[aSQ] at hz;obtain⟨cs,hx⟩:=GL (a:=a) hT hH ho;obtain⟨v0,xs,hv0,hown,hnone,hseal⟩:=hH.blk k _ hk;have hcur:g.cur k (List.length l)=some v:=hs1.2;rw[hln,hv0] at hcur;obtain rfl:=aSr hcur;obtain⟨adr,capr,hvr,hler,hlr⟩:=DT hs2.1;obtain⟨adl,capl,hvl,hlel,hll⟩:=DT hs1.1;by_cases hm:List.length r=0
     ·
      obtain rfl:r=[]:=aSS hm;have hlr:List.length l+List.length ([]:List b1.den)=n:=by rw[hln];rfl
      have hget: ∀i,qO (r6 [(k,qJ.grow e' c (List.length l+List.length ([]:List b1.den)))] H) i=qO H i:=by
       intro i;simp only[r6,qO];by_cases hi:k=i
       .subst hi;rw[aSn rfl,hlr];exact hk.symm
       rw[aSo hi]
      have hkeep:rL g w H ⟨[List.length l=n,(List.length l+List.length ([]:List b1.den))*by'<=140737488355328],(.val (.list b1) (l++[]),some k),[(k,.grow e' c (List.length l+List.length ([]:List b1.den)))],[k]⟩ g w v0:=by
       refine⟨.refl _ _,?_,⟨fun i b h=>hH.blk i b ((hget i).symm.trans h),fun i j bi bj b o' hij h1 h2=>hH.dis i j bi bj b o' hij ((hget i).symm.trans h1) ((hget j).symm.trans h2),hH.sl,hH.tab.1,fun i blk b o' h ho'=>hH.tab.2 i blk b o' ((hget i).symm.trans h) ho'⟩,.refl _ _ _,fun i blk b o' hi hg ho'=> .inr ⟨i,blk,hi,(hget i).symm.trans hg,ho'⟩,fun _ _=>⟨rfl,rfl⟩,fun i u' y us h=> .inl ⟨y,us,(hget i).symm.trans h⟩⟩;rw[List.append_nil];exact hs1
      refine rH.value (v:=v0) (w':=w) ?_ hkeep;rw[hx,hv,hvr,hvl];have ha0:(#[Value.slice adl (List.length l) capl,Value.slice adr (List.length ([]:List b1.den)) capr]:Array qB)[0]? =some (.slice adl (List.length l) capl):=rfl;have ha1:(#[Value.slice adl (List.length l) capl,Value.slice adr (List.length ([]:List b1.den)) capr]:Array qB)[1]? =some (.slice adr 0 capr):=rfl;have ht0:(#[t,t]:Array TypeId)[0]? =some t:=rfl;have ht1:(#[t,t]:Array TypeId)[1]? =some t:=rfl;simp only[builtin,Builtin.append_,ht0,ht1,ha0,ha1,aSz,aSK h2,aSu,aSN,sizeOf,typeInfo,aTg,hei];cases adr<;>cases adl<;>simp [Builtin.lenOf,Builtin.firstCells,loadCells,loadCellsFrom,storeCells,hlel]
     obtain⟨b,off,rfl,hL⟩: ∃b o,adr=some ⟨b,o,none⟩/\yC (Rd g w b1) w g.S b1.cells b o r:=by
      rcases hlr with rfl|h
      .exact absurd rfl hm
      exact h
     obtain⟨news,hF,hra,_⟩:=QD hL;have hxs:tT (Rd g w b1) b1.cells l xs:=by
      by_cases h0:List.length l=0
      .obtain rfl:l=[]:=aSS h0;have:xs=[]:=aSS (by rw[hown.1,<-hln];simp);exact this
      rcases hll with rfl|⟨b0,off0,rfl,hL0⟩
      .exact absurd rfl h0
      obtain⟨ls,hF0,hra0,_⟩:=QD hL0;rcases hown.2 with⟨e1,e2⟩ |⟨q,cap,cur,e1,e2⟩
      .exact absurd (hln.trans e2) h0
      rw[hvl] at e1;simp only[aT3,aSm,Addr.mk.injEq] at e1;obtain⟨⟨rfl,rfl,_⟩,_,rfl⟩:=e1;have hvn:v0= .slice (some ⟨b0,0,none⟩) n capl:=by rw[hvl,hln]
      have hrx:=a0G (hvn▸hown);have:ls=xs:=by
       have hl1:=KW hF0;have hl2:=hown.1;apply List.ext_getElem?;intro j;by_cases hj:j<ls.length
       .have h1:=hra0 j ls[j] (aSv hj);have hj':j<xs.length:=by rw[hl2,hcc,<-hln,<-hl1];exact hj
        have h2:=hrx j xs[j] (aSv hj');rw[h1] at h2;rw[aSv hj,aSv hj',aSr h2]
       rw[aTM pQ,aTM (by rw[hl2,hcc,<-hln,<-hl1];omega)]
      rw[<-this];exact hF0
     obtain⟨q,cap,w',hrun,hown',hq,hg,hcap,hcell⟩:=a91 (P:=P) w t o.type e' ei (xT b1) c by' h2 hei hz.2.2 (by rw[hz.1,hcc]) hz.2.1 (by
      have:=sV (F7 (L1 g w b1));rw[hcc];simpa using this) v0 n xs hown ⟨b,off,none⟩ (List.length r) capr news (by rw[KW hF,hcc]) (fun j u hu=>by rw[aTA];exact hra j u hu) (a0F (fun _ _ h=>A1 h) hF) pQ
      (by
       have:=Nat.mul_le_mul_left (List.length l+List.length r) hb1;unfold maxLen;omega) (by rw[<-hln];exact hby)
     refine rH.value (v:= .slice (some ⟨q,0,none⟩) (n+List.length r) cap) (w':=w') ?_ (by
      have:=rL.append (side:=[List.length l=n,(List.length l+List.length r)*by'<=140737488355328]) (rds:=[k]) hH hk hcc hln hv0 hown hnone hseal (hcc▸hxs) (hcc▸hF) pQ hown' hq hg hcap hcell;rw[hln];rw[hln] at this;exact this)
     rw[hx,hv,hvr];simp only[builtin,aSz,hrun,aSu,aSN]
    cases hr
   cases hr
  cases hr
 cases hr
end
def A4:Ty->TypeDesc
 | .int k=> .int k
 | .str=> .string
 |_=> .bool
theorem a0S {P:Program}{t:TypeId}{ti:TI}(h:tI P t ti) (hk:DQ ti.ty=true):P.underlying t=some (A4 ti.ty):=by
 have h2:=h.2;unfold x9 at h2;obtain⟨ty,el,by',ar,ls⟩:=ti;cases ty<;>simp only[DQ,aTO] at hk<;>exact h2
theorem aI5 {g:Gh}{w:q9}{k:Ty}(hk:DQ k=true) {a x:k.den}{v u:qB}(ha:tB g w k a v) (hx:tB g w k x u):Instr.sameNow (A4 k) v u=some (GG k a x)/\(GG k a x=true->u=v):=by
 cases k with
 |int k=>
  rw[vX ha,vX hx];simp only[A4,Instr.sameNow,aTW,GG];refine⟨?_,fun h=>?_⟩
  .congr 1
  .rw[aSZ h]
 |str=>
  rw[wI ha,wI hx];simp only[A4,Instr.sameNow,GG];refine⟨?_,fun h=>?_⟩
  .congr 1;rw[aUf,MapKept.bytes_beq,aSx];constructor
   .intro h;have:=aSM (fun z:ByteArray=>z.data.toList) h;simpa using this
   intro h;rw[h]
  .rw[aSZ h]
 |bool=>
  rw[vF ha,vF hx];simp only[A4,Instr.sameNow,GG];refine⟨trivial,fun h=>?_⟩;rw[aT2.1 h]
 |_=>simp [DQ] at hk
theorem a0T {g:Gh}{w:q9}{k v:Ty}(hk:DQ k=true) {a:k.den}{key:qB}(ha:tB g w k a key): ∀{l:List (k.den×v.den)}{es:List MapEntry}(i:Nat),DR g w k v l es->
  (F5 k v l a=false->Instr.findNow (A4 k) key es i=some none/\sP k v l a=v.zero/\∀b val born,tB g w v b val->DR g w k v (sY k v a b l) (es++[⟨key,val,born⟩]))/\
  (F5 k v l a=true->∃j e,es[j]? =some e/\Instr.findNow (A4 k) key es i=some (some (i+j,e.val))/\tB g w v (sP k v l a) e.val/\e.key=key/\∀b val,tB g w v b val->DR g w k v (sY k v a b l) (es.modify j fun e=>{e with key:=key,val:=val}))
 |[],es,i,h=>by
  rw[show es=[] from h];exact⟨fun _=>⟨rfl,rfl,fun b val born hb=>⟨_,[],rfl,ha,hb,rfl⟩⟩,fun h=>by simp [F5] at h⟩
 |(x,y)::l,_,i,⟨e,es',rfl,h1,h2,h3⟩=>by
  obtain⟨s1,s2⟩:=aI5 hk ha h1;cases hq:GG k a x with
  |true=>
   rw[hq] at s1;refine⟨fun h=>by simp [F5,hq] at h,fun _=>⟨0,e,rfl,?_,?_,s2 hq,fun b val hb=>?_⟩⟩
   .simp only[Instr.findNow,s1,aTv]
   .simp only[sP,hq,aTW];exact h2
   .simp only[sY,hq,aTW];exact⟨_,es',rfl,ha,hb,h3⟩
  |false=>
   rw[hq] at s1;obtain⟨f1,f2⟩:=a0T (v:=v) hk ha (i+1) h3;refine⟨fun h=>?_,fun h=>?_⟩
   .simp only[F5,hq] at h;obtain⟨g1,g2,g3⟩:=f1 (by simpa using h);refine⟨by simp only[Instr.findNow,s1];exact g1,by simp only[sP,hq];simpa using g2,fun b val born hb=>?_⟩;simp only[sY,hq];exact⟨e,_,rfl,h1,h2,g3 b val born hb⟩
   simp only[F5,hq] at h;obtain⟨j,e',g1,g2,g3,g4,g5⟩:=f2 (by simpa using h);refine⟨j+1,e',by simpa using g1,by simp only[Instr.findNow,s1];rw[g2];congr 3;omega,by simp only[sP,hq];simpa using g3,g4,fun b val hb=>?_⟩;simp only[sY,hq];exact⟨e,_,rfl,h1,h2,g5 b val hb⟩
def L4 (ok:Bool) (z:qB):Option (Nat×qB)->qB
 |some (_,v)=>if ok then .tuple #[v,.bool true] else v
 |none=>if ok then .tuple #[z,.bool false] else z
section
variable {P:Program}{o:Oper}{a:Act}{g:Gh}{w:q9}{H:s7}{T:sS}(hT:xA P T) (hH:sE g w H)
include hT hH
theorem rL.newMap {side:List Prop}{rds:q8}{base:Nat}{k v:Ty}(hf:g.J base=none) (hc:g.cur base=fun _=>none):
  rL g w H ⟨side,(.val .mp (some base),none),[(base,.map k v [])],rds⟩ (g.var base w.heap.size none) (w.alloc (.map #[] 0)) (.map (some w.heap.size)):=by
 have hJ:(g.var base w.heap.size none).J base=some ⟨w.heap.size,0,none⟩:=by simp [Gh.var]
 have le:Le g w (g.var base w.heap.size none) (w.alloc (.map #[] 0)):=⟨fun _ _ h=>h,fun b o h=>aSL (a:=⟨b,o,none⟩) (aST _ _ _ (hH.sl b o h)),fun i p h=>by
  show (if i=base then _ else _)=_;rw[aSo (fun e1=>by rw[e1,hf] at h;cases h)];exact h,fun _ _ _ h=>h⟩
 have fr:Fr (sU g H (qQ [(base,qJ.map k v [])])) w (w.alloc (.map #[] 0)) g.S (g.var base w.heap.size none).S:=
  ⟨rfl,rfl,rfl,by simp,fun b hb _=>aST _ _ _ hb,fun b o hb _=>⟨aSL (a:=⟨b,o,none⟩) (aST _ _ _ hb),aS9 (a:=⟨b,o,none⟩) (aST _ _ _ hb)⟩,fun b o h=> .inl h,fun b s h=> .inl ((BT (aST _ _ _ (BS h))).trans h)⟩
 have gho: ∀i,i∉qQ [(base,qJ.map k v [])]->(g.var base w.heap.size none).J i=g.J i/\(g.var base w.heap.size none).cur i=g.cur i:=fun i hi=>⟨by
  show (if i=base then _ else _)=_;rw[aSo (fun e1=>hi (by simp [qQ,e1]))],rfl⟩
 have get: ∀i blk,i∈qQ [(base,qJ.map k v [])]->qO (r6 [(base,qJ.map k v [])] H) i=some blk->i=base/\blk= .map k v []:=by
  intro i blk hi hg;simp only[qQ,aSI] at hi;subst hi;simp only[r6,qO,aTW,aSm] at hg;exact⟨rfl,hg.symm⟩
 have perm: ∀i blk b o,i∈qQ [(base,qJ.map k v [])]->qO (r6 [(base,qJ.map k v [])] H) i=some blk->s9 (g.var base w.heap.size none) i blk b o->w.heap.size<=b\/sU g H (qQ [(base,qJ.map k v [])]) b o:=by
  intro i blk b o hi hg ho;obtain⟨rfl,rfl⟩:=get i blk hi hg;obtain⟨p,hp,h1⟩:=ho;rw[hJ] at hp;obtain rfl:=aSr hp;exact .inl (aTU h1.symm)
 refine⟨le,⟨.inr ⟨rfl,_,hJ,rfl⟩,trivial⟩,hH.upd le fr perm gho (fun i blk hi hg=>?_) (fun i j bi bj b o hi hj hij hgi hgj _ _=>hij ((get i bi hi hgi).1.trans (get j bj hj hgj).1.symm)) (fun b o h=>aSY (hH.sl b o h) pS),fr,perm,gho,fun i u' y us h=>by
  simp only[r6,qO] at h;split at h
  .cases h
  exact .inl ⟨y,us,h⟩⟩
 obtain⟨rfl,rfl⟩:=get i blk hi hg;refine⟨⟨w.heap.size,0,none⟩,#[],0,hJ,rfl,?_,rfl,fun o hs=>aUh _ (hH.sl _ _ hs)⟩;show (w.heap.push (.map #[] 0))[w.heap.size]? =_;rw[aUl]
theorem aI6 {t:TypeId}{r:Option Operand}(ho:o.op= .makeMap t r) {base:Nat}{e:qS}(hr:a0f T base (rR T t) r=some e) (hf:xV g base e):rH P o a g w H e:=by
 generalize hst:rR T t=ot at hr;unfold a0f at hr;split at hr
 .rename_i el fl ar ls_;unfold a9i at hr;split at hr
  .split at hr
   .cases hr;have hfr:=hf base (by simp [qQ]) (aSJ _);refine rH.value (v:= .map (some w.heap.size)) (w':=w.alloc (.map #[] 0)) ?_ (rL.newMap hT hH hfr.1 (funext hfr.2));unfold execOp;rw[ho];simp only[Instr.makeMap,aSz,run_newObj,aSu,aSN,Option.map_none];rfl
   cases hr
  cases hr
 cases hr
theorem aI7 {xt el fl:TypeId}{ok:Bool}{r:Nat}{es:Array MapEntry}{cl:Nat}{key z res:qB}{kd:TypeDesc}(hm:P.underlying xt=some (.map el fl)) (hb:w.heap[r]? =some (.map es cl)) (hkd:P.underlying el=some kd) (hsim: ∀ty,kd≠.interface ty) (hna: ∀n t,kd≠.array n t) (hns: ∀f,kd≠.struct f)
  {q:Option (Nat×qB)}(hq:Instr.findNow kd key es.toList 0=some q) (hz:(zeroValue fl).run P w= .ok z w)
  (hres:res=L4 ok z q):(Instr.lookup xt (.map (some r)) key ok).run P w= .ok res w:=by
 have hck: ∀em,(Instr.checkKey em 10000 el key).run P w= .ok () w:=by
  intro em;unfold Instr.checkKey;simp only[aSz,aSK hkd,aSu];cases kd<;>first|rfl|(exact absurd rfl (hsim _)) |(exact absurd rfl (hna _ _)) |(exact absurd rfl (hns _))
 have hfk:(Instr.findKey el key es.toList).run P w= .ok q w:=by
  unfold Instr.findKey;simp only[aSz,aSK hkd,aSu,hq,aSN]
 subst hres;unfold Instr.lookup;simp only[aSz,aSK hm,aSu,MapKept.run_getObj_map hb,aSN,hck,hfk];cases q with
 |none=>cases ok<;>simp [hz,aSz,aSu,L4]
 |some q=>cases ok<;>simp [aSz,aSu,L4]
theorem aI8 {xt el fl:TypeId}{ok:Bool}{key z:qB}{kd:TypeDesc}(hm:P.underlying xt=some (.map el fl)) (hkd:P.underlying el=some kd) (hsim: ∀ty,kd≠.interface ty) (hna: ∀n t,kd≠.array n t) (hns: ∀f,kd≠.struct f)
  (hz:(zeroValue fl).run P w= .ok z w):(Instr.lookup xt (.map none) key ok).run P w= .ok (L4 ok z none) w:=by
 have hck: ∀em,(Instr.checkKey em 10000 el key).run P w= .ok () w:=by
  intro em;unfold Instr.checkKey;simp only[aSz,aSK hkd,aSu];cases kd<;>first|rfl|(exact absurd rfl (hsim _)) |(exact absurd rfl (hna _ _)) |(exact absurd rfl (hns _))
 have hfk:(Instr.findKey el key ([]:List MapEntry)).run P w= .ok none w:=by
  unfold Instr.findKey;simp only[aSz,aSK hkd,aSu,Instr.findNow,aSN]
 unfold Instr.lookup;simp only[aSz,aSK hm,aSu,aSN,hck,hfk];cases ok<;>simp [hz,aSz,aSu,L4,hfk]
theorem rL.updMap {side:List Prop}{rds:q8}{i:Nat}{k v:Ty}{l l':List (k.den×v.den)}{p:Pl}{es es':Array MapEntry}{cl cl':Nat}(hi:qO H i=some (.map k v l)) (hp:g.J i=some p) (hp0:p.2=0) (hb:w.heap[p.1]? =some (.map es cl)) (hS: ∀o,¬g.S p.1 o) (hM:DR g w k v l' es'.toList):
  rL g w H ⟨side,(.any,none),[(i,.map k v l')],rds⟩ g {w with heap:=w.heap.setIfInBounds p.1 (.map es' cl')} undef:=by
 have hlt:p.1<w.heap.size:=(aSP.1 hb).1;have hoth: ∀b,b≠p.1->(w.heap.setIfInBounds p.1 (.map es' cl'))[b]? =w.heap[b]? :=fun b hne=>by rw[aTD (Ne.symm hne)]
 have hown: ∀o,sU g H (qQ [(i,qJ.map k v l')]) p.1 o:=fun o=>⟨i,_,by simp [qQ],hi,p,hp,rfl⟩;have le:Le g w g {w with heap:=w.heap.setIfInBounds p.1 (.map es' cl')}:=⟨fun _ _ h=>h,fun b o h=>aSL (a:=⟨b,o,none⟩) (hoth b (fun e=>hS o (e▸h))),fun _ _ h=>h,fun _ _ _ h=>h⟩
 have fr:Fr (sU g H (qQ [(i,qJ.map k v l')])) w {w with heap:=w.heap.setIfInBounds p.1 (.map es' cl')} g.S g.S:=
  ⟨rfl,rfl,rfl,by simp,fun b _ hn=>hoth b (fun e=>hn 0 (e▸hown 0)),fun b o _ hn=>⟨aSL (a:=⟨b,o,none⟩) (hoth b (fun e=>hn (e▸hown o))),aS9 (a:=⟨b,o,none⟩) (hoth b (fun e=>hn (e▸hown o)))⟩,fun b o h=> .inl h,fun b s h=>(by
   by_cases e:b=p.1
   .exact .inr fun o=>e▸hown o
   exact .inl ((BT (hoth b e)).trans h))⟩
 have get: ∀j blk,j∈qQ [(i,qJ.map k v l')]->qO (r6 [(i,qJ.map k v l')] H) j=some blk->j=i/\blk= .map k v l':=by
  intro j blk hj hg;simp only[qQ,aSI] at hj;subst hj;simp only[r6,qO,aTW,aSm] at hg;exact⟨rfl,hg.symm⟩
 have perm: ∀j blk b o,j∈qQ [(i,qJ.map k v l')]->qO (r6 [(i,qJ.map k v l')] H) j=some blk->s9 g j blk b o->w.heap.size<=b\/sU g H (qQ [(i,qJ.map k v l')]) b o:=by
  intro j blk b o hj hg ho;obtain⟨rfl,rfl⟩:=get j blk hj hg;obtain⟨q,hq,rfl⟩:=ho;rw[hp] at hq;obtain rfl:=aSr hq;exact .inr (hown o)
 refine⟨le,⟨trivial,trivial⟩,hH.upd le fr perm (fun _ _=>⟨rfl,rfl⟩) (fun j blk hj hg=>?_) (fun j j' bi bj b o hj hj' hij hgi hgj _ _=>hij ((get j bi hj hgi).1.trans (get j' bj hj' hgj).1.symm)) (fun b o h=>by simpa using hH.sl b o h),fr,perm,fun _ _=>⟨rfl,rfl⟩,fun j u' y us h=>by
  simp only[r6,qO] at h;split at h
  .cases h
  exact .inl ⟨y,us,h⟩⟩
 obtain⟨rfl,rfl⟩:=get j blk hj hg;exact⟨p,es',cl',hp,hp0,by simp [aUb,hlt],a0q le hM,hS⟩
theorem aAd {i:Nat}{k:pZ}{v:qB}(h:rO g w (.val .mp (some i),k) v): ∃p,g.J i=some p/\v= .map (some p.1):=by
 obtain⟨p,h1,e⟩:=xB rfl h.1;simp only[aS8,and_true] at e;exact⟨p,h1,e⟩
theorem a0U {k:Ty}:(∀ty,A4 k≠.interface ty)/\(∀n t,A4 k≠.array n t)/\(∀f,A4 k≠.struct f):=by
 cases k<;>exact⟨fun _ h=>by simp [A4] at h,fun _ _ h=>by simp [A4] at h,fun _ h=>by simp [A4] at h⟩
theorem aI9 {t:TypeId}{x y:Operand}{ok:Bool}(ho:o.op= .lookup t x y ok) {sx sy:qM}(hx:rO g w sx (a.eval x)) (hy:rO g w sy (a.eval y)) {e:qS}(hr:UC T H ok (rR T t) sx sy=some e):rH P o a g w H e:=by
 generalize hst:rR T t=ot at hr;unfold UC at hr;split at hr
 .rename_i el fl ar ls_ i kk;generalize hk:rR T el=ok1 at hr;generalize hv:rR T fl=ok2 at hr;unfold a0g at hr;split at hr
  .rename_i kt vt k a' _;split at hr
   .rename_i hkt;unfold UB at hr;split at hr
    .rename_i k' v' l hb;split at hr
     .rename_i hkv;obtain⟨rfl,rfl⟩:=hkv;split at hr
      .rename_i hkey;obtain⟨p,es,cl,hp,hp0,hh,hM,hS⟩:=hH.blk i _ hb;obtain⟨p',hp',hxv⟩:=aAd hT hH hx;rw[hp] at hp';obtain rfl:=aSr hp';have hm:=(sZ hT hst).2;simp only[x9] at hm;have hkd:=a0S (sZ hT hk) (hkt▸hkey);obtain⟨iv,hi1,hi2,hi3⟩:=DU (sZ hT hv);have hz:(zeroValue fl).run P w= .ok (xT vt.ty) w:=by
        simp only[zeroValue,typeInfo,aSz,aTg,hi1,hi3,aSu,aSN]
       obtain⟨f1,f2⟩:=a0T (v:=vt.ty) hkey hy.1 0 hM;rw[<-hkt] at hkd;obtain⟨p1,p2,p3⟩:=a0U hT hH (k:=k);have go: ∀{q res},Instr.findNow (A4 k) (a.eval y) es.toList 0=some q->res=L4 ok (xT vt.ty) q->(execOp a.eval o).run P w= .ok (.value res) w:=by
        intro q res h1 h2;unfold execOp;rw[ho];simp only[hxv,aSz,aI7 hT hH hm hh hkd p1 p2 p3 h1 hz h2,aSu,aSN]
       cases hmh:F5 k vt.ty l a' with
       |false=>
        obtain⟨g1,g2,_⟩:=f1 hmh;cases ok with
        |true=>
         cases hr;refine rH.pure hH (v:= .tuple #[xT vt.ty,.bool false]) (go g1 rfl) ?_;simp only[MS,hmh,g2];exact⟨[_,_],rfl,_,[_],rfl,L1 g w _,trivial,_,[],rfl,vG g w false,trivial,rfl⟩
        |false=>
         cases hr;refine rH.pure hH (v:=xT vt.ty) (go g1 rfl) ?_;simp only[MS,g2];exact L1 g w _
       |true=>
        obtain⟨j,e',g1,g2,g3,g4,g5⟩:=f2 hmh;cases ok with
        |true=>
         cases hr;refine rH.pure hH (v:= .tuple #[e'.val,.bool true]) (go g2 rfl) ?_;simp only[MS,hmh];exact⟨[_,_],rfl,_,[_],rfl,g3,trivial,_,[],rfl,vG g w true,trivial,rfl⟩
        |false=>
         cases hr;refine rH.pure hH (v:=e'.val) (go g2 rfl) ?_;simp only[MS];exact g3
      cases hr
     cases hr
    cases hr
   cases hr
  cases hr
 .rename_i el fl ar ls_ kk;generalize hk:rR T el=ok1 at hr;generalize hv:rR T fl=ok2 at hr;unfold a9j at hr;split at hr
  .rename_i kt vt k a' _;split at hr
   .rename_i hkt;split at hr
    .rename_i hkey;have hxv:a.eval x= .map none:=by
      have e1:=xB rfl hx.1;simpa[Rd,KV] using e1
     have hm:=(sZ hT hst).2;simp only[x9] at hm;have hkd:=a0S (sZ hT hk) (hkt▸hkey);obtain⟨iv,hi1,hi2,hi3⟩:=DU (sZ hT hv);have hz:(zeroValue fl).run P w= .ok (xT vt.ty) w:=by
      simp only[zeroValue,typeInfo,aSz,aTg,hi1,hi3,aSu,aSN]
     rw[<-hkt] at hkd;obtain⟨p1,p2,p3⟩:=a0U hT hH (k:=k);have go:(execOp a.eval o).run P w= .ok (.value (L4 ok (xT vt.ty) none)) w:=by
      unfold execOp;rw[ho];simp only[hxv,aSz,aI8 hT hH hm hkd p1 p2 p3 hz,aSu,aSN]
     cases ok with
     |true=>
      cases hr;exact rH.pure hH (v:= .tuple #[xT vt.ty,.bool false]) go ⟨[_,_],rfl,_,[_],rfl,L1 g w _,trivial,_,[],rfl,vG g w false,trivial,rfl⟩
     |false=>
      cases hr;exact rH.pure hH (v:=xT vt.ty) go (L1 g w _)
    cases hr
   cases hr
  cases hr
 cases hr
theorem aJa {g:Gh}{w:q9}{k:Ty}(hk:DQ k=true) {x:k.den}{v:qB}(h:tB g w k x v) (n:Nat):Instr.sameBits n v v=true:=by
 cases k with
 |int k=>rw[vX h];cases n<;>simp [Instr.sameBits]
 |str=>rw[wI h];cases n<;>simp [Instr.sameBits,MapKept.bytes_beq]
 |bool=>rw[vF h];cases n<;>simp [Instr.sameBits]
 |_=>simp [DQ] at hk
omit hT hH in
theorem aAe {T:sS}{ti:Option TI}{s:qM}{v:qB}(h:rO g w s v):rO g w (UE T ti s) v:=by
 unfold UE;split
 .unfold a9k;split
  .rename_i f x _;refine⟨.inr ⟨rfl,?_⟩,trivial⟩;rcases h.1 with⟨h1,_⟩ |⟨h1,vs,h2,h3⟩
   .cases h1
   rw[show vs=[] from h2] at h3;exact h3
  exact h
 exact h
theorem aAf {t:TypeId}{m x y:Operand}(ho:o.op= .mapUpdate t m x y\/o.op= .insert t m x y) {sm sx sy:qM}(hm:rO g w sm (a.eval m)) (hx:rO g w sx (a.eval x)) (hy:rO g w sy (a.eval y)) {e:qS}(hr:N7 T H (rR T t) sm sx sy=some e):rH P o a g w H e:=by
 generalize hst:rR T t=ot at hr;unfold N7 at hr;split at hr
 .rename_i el fl ar ls_ i kk;generalize hk:rR T el=ok1 at hr;unfold UD at hr;split at hr
  .rename_i kt k a' _ u b _;split at hr
   .rename_i hkt;unfold N6 at hr;split at hr
    .rename_i k' v' l hb;split at hr
     .rename_i hkv;obtain⟨rfl,rfl⟩:=hkv;split at hr
      .rename_i hkey;cases hr;obtain⟨p,es,cl,hp,hp0,hh,hM,hS⟩:=hH.blk i _ hb;obtain⟨p',hp',hxv⟩:=aAd hT hH hm;rw[hp] at hp';obtain rfl:=aSr hp';have hmt:=(sZ hT hst).2;simp only[x9] at hmt;have hkd:=a0S (sZ hT hk) (hkt▸hkey);rw[<-hkt] at hkd;obtain⟨p1,p2,p3⟩:=a0U hT hH (k:=k);have hck:(Instr.checkKey false 10000 el (a.eval x)).run P w= .ok () w:=by
        unfold Instr.checkKey;simp only[aSz,aSK hkd,aSu];generalize A4 k=kd at p1 p2 p3;cases kd<;>first|rfl|(exact absurd rfl (p1 _)) |(exact absurd rfl (p2 _ _)) |(exact absurd rfl (p3 _))
       have hfk: ∀{q},Instr.findNow (A4 k) (a.eval x) es.toList 0=some q->(Instr.findKey el (a.eval x) es.toList).run P w= .ok q w:=by
        intro q hq;unfold Instr.findKey;simp only[aSz,aSK hkd,aSu,hq,aSN]
       obtain⟨f1,f2⟩:=a0T (v:=u) hkey hx.1 0 hM;cases hmh:F5 k u l a' with
       |false=>
        obtain⟨g1,_,g3⟩:=f1 hmh;refine rH.skip (w':={w with heap:=w.heap.setIfInBounds p.1 (.map (es.push ⟨a.eval x,a.eval y,cl⟩) (cl+1))}) ?_ (rL.updMap hT hH hb hp hp0 hh hS ?_)
        .unfold execOp;rcases ho with ho|ho<;>rw[ho]<;>
          simp only[Instr.mapUpdate,hxv,aSz,aSK hmt,aSu,MapKept.run_getObj_map hh,hck,hfk g1,MapKept.run_setObj_map _ hh,aSN]
        .simp only[MS,Array.toList_push];exact g3 b _ _ hy.1
       |true=>
        obtain⟨j,e',g1,g2,g3,g4,g5⟩:=f2 hmh;rw[aSU] at g2;refine rH.skip (w':={w with heap:=w.heap.setIfInBounds p.1 (.map (es.modify j fun e=>{e with key:=a.eval x,val:=a.eval y}) cl)}) ?_ (rL.updMap hT hH hb hp hp0 hh hS ?_)
        .have hj:es[j]? =some e':=by rw[<-aTk];exact g1
         unfold execOp;rcases ho with ho|ho<;>rw[ho]<;>
          simp only[Instr.mapUpdate,hxv,aSz,aSK hmt,aSu,MapKept.run_getObj_map hh,hck,hfk g2,hj,Option.map_some,aUr,g4,Instr.keyThatStays,aJa hT hH hkey hx.1,aTW,MapKept.run_setObj_map _ hh,aSN]
        simp only[MS,Array.toList_modify];exact g5 b _ hy.1
      cases hr
     cases hr
    cases hr
   cases hr
  cases hr
 cases hr
end
theorem aAg {P:Program}{w:q9}{r:Nat}{s:ByteArray}{n:Nat}(hb:w.heap[r]? =some (.stringIter s n)):(getObj r).run P w= .ok (.stringIter s n) w:=by
 simp [getObj,Sem.run,hb]
theorem aJb {P:Program}{w:q9}{r:Nat}{s:ByteArray}{n:Nat}(o:Obj) (hb:w.heap[r]? =some (.stringIter s n)):(setObj r o).run P w= .ok () {w with heap:=w.heap.setIfInBounds r o}:=by
 simp [setObj,Sem.run,hb]
section
variable {P:Program}{o:Oper}{a:Act}{g:Gh}{w:q9}{H:s7}{T:sS}(hT:xA P T) (hH:sE g w H)
include hT hH
theorem rL.newIter {side:List Prop}{rds:q8}{base:Nat}{s:pM}(hf:g.J base=none) (hc:g.cur base=fun _=>none):
  rL g w H ⟨side,(.val .ref (some (base,0)),none),[(base,.iter s 0)],rds⟩ (g.var base w.heap.size none) (w.alloc (.stringIter ⟨s.toArray⟩ 0)) (.pointer (some ⟨w.heap.size,0,none⟩)):=by
 have hJ:(g.var base w.heap.size none).J base=some ⟨w.heap.size,0,none⟩:=by simp [Gh.var]
 have le:Le g w (g.var base w.heap.size none) (w.alloc (.stringIter ⟨s.toArray⟩ 0)):=⟨fun _ _ h=>h,fun b o h=>aSL (a:=⟨b,o,none⟩) (aST _ _ _ (hH.sl b o h)),fun i p h=>by
  show (if i=base then _ else _)=_;rw[aSo (fun e1=>by rw[e1,hf] at h;cases h)];exact h,fun _ _ _ h=>h⟩
 have fr:Fr (sU g H (qQ [(base,qJ.iter s 0)])) w (w.alloc (.stringIter ⟨s.toArray⟩ 0)) g.S (g.var base w.heap.size none).S:=
  ⟨rfl,rfl,rfl,by simp,fun b hb _=>aST _ _ _ hb,fun b o hb _=>⟨aSL (a:=⟨b,o,none⟩) (aST _ _ _ hb),aS9 (a:=⟨b,o,none⟩) (aST _ _ _ hb)⟩,fun b o h=> .inl h,fun b s h=> .inl ((BT (aST _ _ _ (BS h))).trans h)⟩
 have gho: ∀i,i∉qQ [(base,qJ.iter s 0)]->(g.var base w.heap.size none).J i=g.J i/\(g.var base w.heap.size none).cur i=g.cur i:=fun i hi=>⟨by
  show (if i=base then _ else _)=_;rw[aSo (fun e1=>hi (by simp [qQ,e1]))],rfl⟩
 have get: ∀i blk,i∈qQ [(base,qJ.iter s 0)]->qO (r6 [(base,qJ.iter s 0)] H) i=some blk->i=base/\blk= .iter s 0:=by
  intro i blk hi hg;simp only[qQ,aSI] at hi;subst hi;simp only[r6,qO,aTW,aSm] at hg;exact⟨rfl,hg.symm⟩
 have perm: ∀i blk b o,i∈qQ [(base,qJ.iter s 0)]->qO (r6 [(base,qJ.iter s 0)] H) i=some blk->s9 (g.var base w.heap.size none) i blk b o->w.heap.size<=b\/sU g H (qQ [(base,qJ.iter s 0)]) b o:=by
  intro i blk b o hi hg ho;obtain⟨rfl,rfl⟩:=get i blk hi hg;obtain⟨p,hp,h1⟩:=ho;rw[hJ] at hp;obtain rfl:=aSr hp;exact .inl (aTU h1.symm)
 refine⟨le,⟨.inr ⟨rfl,_,hJ,rfl⟩,trivial⟩,hH.upd le fr perm gho (fun i blk hi hg=>?_) (fun i j bi bj b o hi hj hij hgi hgj _ _=>hij ((get i bi hi hgi).1.trans (get j bj hj hgj).1.symm)) (fun b o h=>aSY (hH.sl b o h) pS),fr,perm,gho,fun i u' y us h=>by
  simp only[r6,qO] at h;split at h
  .cases h
  exact .inl ⟨y,us,h⟩⟩
 obtain⟨rfl,rfl⟩:=get i blk hi hg;refine⟨⟨w.heap.size,0,none⟩,hJ,rfl,?_,fun o hs=>aUh _ (hH.sl _ _ hs)⟩;show (w.heap.push (.stringIter ⟨s.toArray⟩ 0))[w.heap.size]? =_;rw[aUl]
theorem rL.updIter {side:List Prop}{rds:q8}{i:Nat}{s:pM}{n n':Nat}{d:qM}{val:qB}{p:Pl}(hi:qO H i=some (.iter s n)) (hp:g.J i=some p) (hp0:p.2=0) (hb:w.heap[p.1]? =some (.stringIter ⟨s.toArray⟩ n)) (hS: ∀o,¬g.S p.1 o) (hd:rO g {w with heap:=w.heap.setIfInBounds p.1 (.stringIter ⟨s.toArray⟩ n')} d val):
  rL g w H ⟨side,d,[(i,.iter s n')],rds⟩ g {w with heap:=w.heap.setIfInBounds p.1 (.stringIter ⟨s.toArray⟩ n')} val:=by
 have hlt:p.1<w.heap.size:=(aSP.1 hb).1;have hoth: ∀b,b≠p.1->(w.heap.setIfInBounds p.1 (.stringIter ⟨s.toArray⟩ n'))[b]? =w.heap[b]? :=fun b hne=>by rw[aTD (Ne.symm hne)]
 have hown: ∀o,sU g H (qQ [(i,qJ.iter s n')]) p.1 o:=fun o=>⟨i,_,by simp [qQ],hi,p,hp,rfl⟩;have le:Le g w g {w with heap:=w.heap.setIfInBounds p.1 (.stringIter ⟨s.toArray⟩ n')}:=⟨fun _ _ h=>h,fun b o h=>aSL (a:=⟨b,o,none⟩) (hoth b (fun e=>hS o (e▸h))),fun _ _ h=>h,fun _ _ _ h=>h⟩
 have fr:Fr (sU g H (qQ [(i,qJ.iter s n')])) w {w with heap:=w.heap.setIfInBounds p.1 (.stringIter ⟨s.toArray⟩ n')} g.S g.S:=
  ⟨rfl,rfl,rfl,by simp,fun b _ hn=>hoth b (fun e=>hn 0 (e▸hown 0)),fun b o _ hn=>⟨aSL (a:=⟨b,o,none⟩) (hoth b (fun e=>hn (e▸hown o))),aS9 (a:=⟨b,o,none⟩) (hoth b (fun e=>hn (e▸hown o)))⟩,fun b o h=> .inl h,fun b s h=>(by
   by_cases e:b=p.1
   .exact .inr fun o=>e▸hown o
   exact .inl ((BT (hoth b e)).trans h))⟩
 have get: ∀j blk,j∈qQ [(i,qJ.iter s n')]->qO (r6 [(i,qJ.iter s n')] H) j=some blk->j=i/\blk= .iter s n':=by
  intro j blk hj hg;simp only[qQ,aSI] at hj;subst hj;simp only[r6,qO,aTW,aSm] at hg;exact⟨rfl,hg.symm⟩
 have perm: ∀j blk b o,j∈qQ [(i,qJ.iter s n')]->qO (r6 [(i,qJ.iter s n')] H) j=some blk->s9 g j blk b o->w.heap.size<=b\/sU g H (qQ [(i,qJ.iter s n')]) b o:=by
  intro j blk b o hj hg ho;obtain⟨rfl,rfl⟩:=get j blk hj hg;obtain⟨q,hq,rfl⟩:=ho;rw[hp] at hq;obtain rfl:=aSr hq;exact .inr (hown o)
 refine⟨le,hd,hH.upd le fr perm (fun _ _=>⟨rfl,rfl⟩) (fun j blk hj hg=>?_) (fun j j' bi bj b o hj hj' hij hgi hgj _ _=>hij ((get j bi hj hgi).1.trans (get j' bj hj' hgj).1.symm)) (fun b o h=>by simpa using hH.sl b o h),fr,perm,fun _ _=>⟨rfl,rfl⟩,fun j u' y us h=>by
  simp only[r6,qO] at h;split at h
  .cases h
  exact .inl ⟨y,us,h⟩⟩
 obtain⟨rfl,rfl⟩:=get j blk hj hg;exact⟨p,hp,hp0,by simp [aUb,hlt],hS⟩
theorem aJc {t:TypeId}{x:Operand}(ho:o.op= .range t x) {sx:qM}(hx:rO g w sx (a.eval x)) {base:Nat}{e:qS}(hr:a0i base (rR T t) sx=some e) (hf:xV g base e):rH P o a g w H e:=by
 generalize hst:rR T t=ot at hr;unfold a0i at hr;split at hr
 .rename_i el b ar ls s k;cases hr;have hfr:=hf base (by simp [qQ]) (aSJ _);have hv:=wI hx.1;have hu:=(sZ hT hst).2;simp only[x9] at hu;refine rH.value (v:= .pointer (some ⟨w.heap.size,0,none⟩)) (w':=w.alloc (.stringIter ⟨s.toArray⟩ 0)) ?_ (rL.newIter hT hH hfr.1 (funext hfr.2));unfold execOp;rw[ho];simp only[Instr.range,hv,aSz,aSK hu,run_newObj,aSu,aSN];rfl
 cases hr
theorem aJd {x:Operand}{b:Bool}(ho:o.op= .next x b) {sx:qM}(hx:rO g w sx (a.eval x)) {e:qS}(hr:UF H b sx=some e):rH P o a g w H e:=by
 unfold UF at hr;split at hr
 .rename_i i k;unfold a0j at hr;split at hr
  .rename_i s n hb;cases hr;obtain⟨p,hp,hp0,hh,hS⟩:=hH.blk i _ hb;obtain⟨q,hq,hv⟩:=xC hx.1;rw[hp] at hq;obtain rfl:=aSr hq;rw[hp0] at hv;by_cases hl:n<s.length
   .have hsz:n<(⟨s.toArray⟩:ByteArray).size:=by simpa[ByteArray.size] using hl
    refine rH.value (v:= .tuple #[.bool true,.int .i64 (n:Int),.int .i32 (x6 s n)]) (w':={w with heap:=w.heap.setIfInBounds p.1 (.stringIter ⟨s.toArray⟩ (AP s n))}) ?_ (rL.updIter hT hH hb hp hp0 hh hS ⟨⟨fun _=>rfl,fun h=>absurd hl (of_decide_eq_false h)⟩,trivial⟩)
    unfold execOp;rw[ho];have hrn:AP s n=n+(Utf8.decode ⟨s.toArray⟩ n).2:=by unfold AP a0h;rw[aSn hl]
    simp only[Instr.next,hv,aSz,aAg hh,aSu,hsz,aTW,aJb _ hh,aSN,hrn];rfl
   have hsz: ¬n<(⟨s.toArray⟩:ByteArray).size:=by simpa[ByteArray.size] using hl
   have hrn:AP s n=n:=by unfold AP;rw[aSo hl]
   have hw:({w with heap:=w.heap.setIfInBounds p.1 (.stringIter ⟨s.toArray⟩ (AP s n))}:q9)=w:=by
    rw[hrn];have:w.heap.setIfInBounds p.1 (.stringIter ⟨s.toArray⟩ n)=w.heap:=by
     obtain⟨h1,h2⟩:=aSP.1 hh;apply Array.ext_getElem?;intro j;rw[aUb];split
     .rename_i hj;subst hj;first|rw[hh] |rw[aSn h1,hh]
     rfl
    rw[this]
   refine rH.value (v:= .tuple #[.bool false]) (w':={w with heap:=w.heap.setIfInBounds p.1 (.stringIter ⟨s.toArray⟩ (AP s n))}) ?_ (rL.updIter hT hH hb hp hp0 hh hS ⟨⟨fun h=>absurd (aSZ h) hl,fun _=>rfl⟩,trivial⟩)
   rw[hw];unfold execOp;rw[ho];simp only[Instr.next,hv,aSz,aAg hh,aSu,hsz,aUt,aSN]
  cases hr
 cases hr
end
def r8:Nat->List qJ->s7
 |_,[]=>[]
 |c,b::L=>(c,b)::r8 (c+1) L
theorem V3: ∀(L:List qJ) (c i:Nat),qO (r8 c L) i=if c<=i then L[i-c]? else none
 |[],c,i=>by simp [r8,qO]
 |b::L,c,i=>by
  simp only[r8,qO];by_cases h:c=i
  .subst h;simp
  rw[aSo h,V3 L (c+1) i];by_cases h2:c<=i
  .rw[aSn h2,aSn pQ];obtain⟨d,hd⟩: ∃d,i-c=d+1:=⟨i-c-1,pQ⟩;rw[hd,aS6];congr 1;omega
  rw[aSo h2,aSo pQ]
theorem xD (L:List qJ) (i:Nat):qO (r8 0 L) i=L[i]? :=by rw[V3];simp
def yE (g:Gh) (H:s7) (b o:Nat):Prop:= ∃i blk,qO H i=some blk/\s9 g i blk b o
def vH (g:Gh) (w:q9):List qM->pX->Prop
 |[],vs=>vs=[]
 |s::ss,vs=> ∃v vs',vs=v::vs'/\rO g w s v/\vH g w ss vs'
def QG (g:Gh) (w:q9):List qM->qB->Prop
 |[s],v=>rO g w s v
 |l,v=> ∃vs:pX,v= .tuple vs.toArray/\vH g w l vs
structure F8 (g:Gh) (w:q9) (L:List qJ) (r:qY) (g':Gh) (w':q9) (v:qB):Prop where
 shut: ∀b o,g.S b o->g'.S b o/\w'.cell? ⟨b,o,none⟩=w.cell? ⟨b,o,none⟩
 heap:sE g' w' (r8 0 r.H)
 ret:QG g' w' r.ret v
 fr:Fr (yE g (r8 0 L)) w w' g.S g'.S
 perm: ∀i blk b o,r.H[i]? =some blk->s9 g' i blk b o->w.heap.size<=b\/yE g (r8 0 L) b o
 J: ∀(i:Nat) t x ts,L[i]? =some (.cells t x ts)->g'.J i=g.J i
 ty: ∀(i:Nat) t x ts u y us,L[i]? =some (.cells t x ts)->r.H[i]? =some (.cells u y us)->u=t
 Jt: ∀i p,i<L.length->g.J i=some p->g'.J i=some p
 cur: ∀i n u,i<L.length->g.cur i n=some u->g'.cur i n=some u
def wP (P:Program) (f:FuncId) (C:List qM->List qJ->Option qY):Prop:=
 (∀args w,(callFunc f args).run P w= .ok (.enter f args) w)/\
 ∀(g:Gh) (w:q9) (args:List qM) (vals:pX) (L:List qJ) (r:qY),sE g w (r8 0 L)->vH g w args vals->C args L=some r->(∀p∈r.side,p)->
  Calls P f vals.toArray w (fun e w'=> ∃v g',e= .returned v/\F8 g w L r g' w' v)
def V4 (P:Program) (f:FuncId) (F:(t:Ty)->List t.den->Option (List t.den)):Prop:=
 ∀(g:Gh) (w:q9) (e:TypeId) (t:Ty) (l l':List t.den) (v:qB) (n:Nat) (xs:pX),EV w->w.ownsRow 0 e t.cells v n xs->tT (Rd g w t) t.cells l xs->l.length=n->n<4611686018427387904->F t l=some l'->
  Calls P f #[v] w (fun en w'=>en= .returned (.tuple #[])/\l'.length=n/\∃xs',w'.ownsRow 0 e t.cells v n xs'/\tT (Rd g w t) t.cells l' xs'/\w.grownBy w' v.ownBlock)
def DW (P:Program) (Γ:tC):Prop:= ∀f s,f<1000000000->Γ f=some s->wP P f s.C/\∀F,s.row=some F->V4 P f F
theorem aAh {g:Gh}{w:q9}{t:Ty}{x:t.den}{v:qB}{k:pZ}(h:rO g w (.val t x,k) v):rO g w (.val t x,EW t k) v:=by
 refine⟨h.1,?_⟩;cases t with
 |list u=>exact h.2
 |_=>trivial
theorem aJe {t:Ty}{k:pZ}: ∀c,EW t k=some c->∃u,t= .list u:=by
 cases t with
 |list u=>exact fun _ _=>⟨u,rfl⟩
 |_=>intro c h;cases h
theorem V5 {g g':Gh}{w:q9}(hS:g'.S=g.S) {t:Ty}(hp:t.pure=true) {x:t.den}{v:qB}{k k':pZ}(hl: ∀c,k=some c->∃u,t= .list u) (h:rO g w (.val t x,k) v) (hk: ∀c,k=some c->∃c',k'=some c'/\∀n u,g.cur c n=some u->g'.cur c' n=some u) (hk0:k=none->k'=none):rO g' w (.val t x,k') v:=by
 have hv:tB g' w t x v:=h.1.imp (fun⟨a,cs,e,q⟩=>⟨a,cs,e,vW hS hp q⟩) (fun⟨a,q⟩=>⟨a,vW hS hp q⟩);refine⟨hv,?_⟩;cases k with
 |none=>rw[hk0 rfl];trivial
 |some c=>
  obtain⟨c',rfl,h2⟩:=hk c rfl;have h1:=h.2;cases t with
  |list u=>exact h2 _ _ h1
  |pair a b=>obtain⟨u,e⟩:=hl c rfl;cases e
  |_=>exact h1.elim
section
variable {P:Program}{o:Oper}{a:Act}{g:Gh}{w:q9}{H:s7}{T:sS}{Γ:tC}(hT:xA P T) (hΓ:DW P Γ) (hH:sE g w H)
include hT hΓ hH
theorem a0V {ti:Option TI}{s:qM}{v:qB}(h:rO g w s v):rO g w (MT ti s) v:=by
 unfold MT;split
 .have:v= .slice none 0 0:=h.1;subst this;exact⟨.inr ⟨rfl,none,0,rfl,aSJ _,.inl rfl⟩,trivial⟩
 .have e:v= .nilFunc:=by
   have:=xB rfl h.1;simpa[Rd,IG] using this
  subst e;exact⟨.inr ⟨rfl,.inl ⟨rfl,rfl⟩⟩,trivial⟩
 exact h
theorem V6 {ρ:Operand->qM}: ∀{xs:List Operand}{ts:List TypeId},xs.length=ts.length->(∀x∈xs,rO g w (ρ x) (a.eval x))->vH g w (BP T ρ xs ts) (xs.map a.eval)
 |[],[],_,_=>rfl
 |x::xs,t::ts,h,hx=>⟨_,_,rfl,a0V hT hΓ hH (hx x pS),V6 (by simpa using h) (fun y hy=>hx y (by simp [hy]))⟩
theorem aJf {l m:List qM}{vs us:pX}(h:vH g w l vs) (k:vH g w m us):vH g w (l++m) (vs++us):=by
 induction l generalizing vs with
 |nil=>rw[show vs=[] from h];exact k
 |cons s l ih=>
  obtain⟨v,vs',rfl,h1,h2⟩:=h;exact⟨v,_,rfl,h1,ih h2⟩
theorem aAi: ∀{caps:pV}{vs:pX},yD g caps vs->vH g w (ZV caps) vs
 |[],_,h=>h
 |(i,o)::caps,_,⟨p,vs',h1,h2,h3⟩=>⟨_,_,h2,⟨.inr ⟨rfl,p,h1,rfl⟩,trivial⟩,aAi h3⟩
end
theorem V7 {P:Program}{o:Oper}{a:Act}{f:FuncId}{fop:Operand}{args:Array Operand}{tys:Array TypeId}(ho:o.op= .call ⟨.value fop,args,tys⟩) {caps:pX}(hf:a.eval fop= .func (.func f) #[] caps.toArray)
  (hen: ∀args w,(callFunc f args).run P w= .ok (.enter f args) w) {w:q9}{K:Act->q9->Prop}{Q:Exit->Act->q9->Prop}
  (h:Calls P f ((args.toList.map a.eval)++caps).toArray w (fun e w'=> ∃v,e= .returned v/\K (a.put o.dst v) w')):o.wp P a w K Q:=by
 unfold Oper.wp;have:(execOp a.eval o).run P w= .ok (.enter f ((args.toList.map a.eval)++caps).toArray) w:=by
  unfold execOp;rw[ho];simp only[resolve,hf,Deferred.ofValue,aSz,aSN,aSu,invoke];rw[hen];congr 2;apply aTt.1;simp
 rw[this];unfold Oper.upon;refine h.mono fun e w' ⟨v,he,hk⟩=>?_;subst he;exact hk
def uQ (g:Gh):Option rP->Option Pl
 |some (.box i _ _ _ o)=>(g.J i).map fun p=>⟨p.1,p.2+o,p.3⟩
 |some (.tok k)=>g.J k
 |none=>none
def zR (g:Gh):Option rP->Nat->Option qB
 |some (.tok k),n=>g.cur k n
 |_,_=>none
def uR (g:Gh) (ws:List rP):Gh:=⟨g.S,fun c=>uQ g ws[c]?,fun c n=>zR g ws[c]? n⟩
def V8 (H:s7) (ws:List rP):rP->qJ->Prop
 | .box i u x toks o,.cells t y ts=>qO H i=some (.cells u x toks)/\r9 t u x o=some y/\∀q n,(q,n)∈ts->∃k,ws[n]? =some (.tok k)/\wZ toks (o+q)=some k/\q<t.cells
 | .tok k,.grow e c m=>qO H k=some (.grow e c m)
 | .tok k,.map s t l=>qO H k=some (.map s t l)/\s.pure=true/\t.pure=true
 | .tok k,.row e t l n=>qO H k=some (.row e t l n)/\t.pure=true
 |_,_=>False
structure GM (H:s7) (ws:List rP) (L:List qJ):Prop where
 len:ws.length=L.length
 ok: ∀(c:Nat) wh b,ws[c]? =some wh->L[c]? =some b->V8 H ws wh b
 nodup:(sF ws).Nodup
def a0W (ws:List rP) (t:Ty) (x y:t.den):Prop:=(t.pure=true/\y=x)\/CB ws t x=some y
def V9 (H:s7) (ws:List rP):rP->qJ->Prop
 | .box i u x toks o,.cells t y ts=>qO H i=some (.cells u x toks)/\(∃y0,r9 t u x o=some y0/\a0W ws t y0 y)/\∀q n,(q,n)∈ts->∃k,ws[n]? =some (.tok k)/\wZ toks (o+q)=some k/\q<t.cells
 | .tok k,.grow e c m=>qO H k=some (.grow e c m)
 | .tok k,.map s t l=>qO H k=some (.map s t l)/\s.pure=true/\t.pure=true
 | .tok k,.row e t l n=>qO H k=some (.row e t l n)/\t.pure=true
 |_,_=>False
def NH {i o:Nat}: ∀{ws:List rP}{c0:Nat}{c q:Nat},D8 i o ws c0=some (c,q)->∃d u x toks oc,c=c0+d/\ws[d]? =some (.box i u x toks oc)/\o=oc+q
 |[],_,_,_,h=>by simp [D8] at h
 | .box j u x toks oc::r,c0,c,q,h=>by
  simp only[D8] at h;split at h
  .rename_i hc;simp only[aSm,aSQ] at h;obtain⟨rfl,rfl⟩:=h;obtain⟨rfl,h2⟩:=hc;exact⟨0,u,x,toks,oc,rfl,rfl,pQ⟩
  .obtain⟨d,u',x',toks',oc',h1,h2,h3⟩:=NH h;exact⟨d+1,u',x',toks',oc',pQ,by simpa using h2,h3⟩
 | .tok k::r,c0,c,q,h=>by
  simp only[D8] at h;obtain⟨d,u',x',toks',oc',h1,h2,h3⟩:=NH h;exact⟨d+1,u',x',toks',oc',pQ,by simpa using h2,h3⟩
def IL {i:Nat}: ∀{ws:List rP}{c0 c:Nat},vU i ws c0=some c->∃d,c=c0+d/\ws[d]? =some (.tok i)
 |[],_,_,h=>by simp [vU] at h
 | .tok j::r,c0,c,h=>by
  simp only[vU] at h;split at h
  .rename_i hc;simp only[aSm] at h;subst h;subst hc;exact⟨0,rfl,rfl⟩
  .obtain⟨d,h1,h2⟩:=IL h;exact⟨d+1,pQ,by simpa using h2⟩
 | .box _ _ _ _ _::r,c0,c,h=>by
  simp only[vU] at h;obtain⟨d,h1,h2⟩:=IL h;exact⟨d+1,pQ,by simpa using h2⟩
def a0X {α β:Type}{a:Option α}{b:Option β}{p:α×β}(h:EY a b=some p):a=some p.1/\b=some p.2:=by
 cases a<;>cases b<;>simp [EY] at h
 subst h;exact⟨rfl,rfl⟩
def aJg {x y:Option (Nat×pV)}(h:PE x=some y):y=x/\∀f l,x=some (f,l)->l=[]:=by
 unfold PE at h;split at h
 .cases h;exact⟨rfl,fun _ _ h=>by cases h⟩
 .cases h;exact⟨rfl,fun _ _ h=>by cases h;rfl⟩
 cases h
def aJh {g g':Gh}{x:Option (Nat×pV)}{cs:pX}(hx: ∀f l,x=some (f,l)->l=[]) (h:IG g x cs):IG g' x cs:=by
 cases x with
 |none=>exact h
 |some q=>
  obtain⟨f,l⟩:=q;obtain rfl:=hx f l rfl;exact h
def VA {g g':Gh}{w:q9}(hS:g'.S=g.S) (f:(t:Ty)->t.den->Option t.den)
  (hp: ∀a b x,f (.pair a b) x=EY (if a.pure=true then some x.1 else f a x.1) (if b.pure=true then some x.2 else f b x.2))
  (hl: ∀t x,f (.list t) x=if t.pure=true then some x else none) (hb: ∀x,f .bool x=some x) (hi: ∀k x,f (.int k) x=some x) (hs: ∀x,f .str x=some x) (hu: ∀x,f .unit x=some x) (hfn: ∀x,f .fn x=some x) (hrl: ∀e t x y cs,f (.rl e t) x=some y->BQ g x cs->BQ g' y cs) (hmr: ∀x y cs,f .mref x=some y->Q5 g x cs->Q5 g' y cs) (hap: ∀x y cs,f .ap x=some y->F6 g w x cs->F6 g' w y cs)
  (hr: ∀x y cs,f .ref x=some y->Q4 g x cs->Q4 g' y cs) (hm: ∀x y cs,f .mp x=some y->KV g x cs->KV g' y cs) (hc: ∀x,f .clo x=PE x):
  ∀{t:Ty}{x y:t.den}{cs:pX},Rd g w t x cs->f t x=some y->Rd g' w t y cs
 | .bool,_,_,_,r,h=>by rw[hb] at h;cases h;exact r
 | .int _,_,_,_,r,h=>by rw[hi] at h;cases h;exact r
 | .str,_,_,_,r,h=>by rw[hs] at h;cases h;exact r
 | .unit,_,_,_,r,h=>by rw[hu] at h;cases h;exact r
 | .rl e t,x,y,_,r,h=>hrl e t x y _ h r
 | .fn,_,_,_,r,h=>by rw[hfn] at h;cases h;exact r
 | .mref,x,y,_,r,h=>hmr x y _ h r
 | .ap,x,y,_,r,h=>hap x y _ h r
 | .list t,x,y,_,r,h=>by
  rw[hl] at h;split at h
  .rename_i hpu;cases h;exact vW hS (t:= .list t) (by simpa[Ty.pure] using hpu) r
  .cases h
 | .ref,x,y,_,r,h=>hr x y _ h r
 | .clo,x,y,_,r,h=>by
  rw[hc] at h;obtain⟨rfl,h2⟩:=aJg h;exact aJh h2 r
 | .mp,x,y,_,r,h=>hm x y _ h r
 | .pair a b,x,y,_,⟨c1,c2,e,r1,r2⟩,h=>by
  rw[hp] at h;obtain⟨h1,h2⟩:=a0X h;refine⟨c1,c2,e,?_,?_⟩
  .split at h1
   .rename_i hpu;exact(aSr h1)▸vW hS hpu r1
   exact VA hS f hp hl hb hi hs hu hfn hrl hmr hap hr hm hc r1 h1
  split at h2
  .rename_i hpu;exact(aSr h2)▸vW hS hpu r2
  exact VA hS f hp hl hb hi hs hu hfn hrl hmr hap hr hm hc r2 h2
def a0Y (f:(t:Ty)->t.den->Option t.den)
  (hp: ∀a b x,f (.pair a b) x=EY (if a.pure=true then some x.1 else f a x.1) (if b.pure=true then some x.2 else f b x.2))
  (hl: ∀t x,f (.list t) x=if t.pure=true then some x else none) {u:Ty}: ∀{t:Ty}{x y:t.den}{o:Nat}{l:List u.den},f t x=some y->r9 (.list u) t x o=some l->r9 (.list u) t y o=some l:=by
 intro t
 induction t with
 |pair a b iha ihb=>
  intro x y o l h hg;rw[hp] at h;obtain⟨h1,h2⟩:=a0X h;have key: ∀z:(Ty.pair a b).den,∀q,r9 (.list u) (.pair a b) z q=if q<a.cells then r9 (.list u) a z.1 q else r9 (.list u) b z.2 (q-a.cells):=by
   intro z q;cases q with
   |zero=>
    conv=>lhs;unfold r9
    rw[aTP (by intro e;cases e),Nat.zero_sub]
   |succ q=>simp [r9]
  rw[key] at hg|-;split
  .rename_i ho;rw[aSn ho] at hg;split at h1
   .rw[<-aSr h1];exact hg
   exact iha h1 hg
  .rename_i ho;rw[aSo ho] at hg;split at h2
   .rw[<-aSr h2];exact hg
   .exact ihb h2 hg
 |list v=>
  intro x y o l h hg;rw[hl] at h;split at h
  .cases h;exact hg
  .cases h
 |_=>
  intro x y o l h hg;cases o with
  |zero=>
   unfold r9 at hg;split at hg
   .rename_i e;cases e
   .cases hg
  |succ o=>simp [r9] at hg
def aAj {c n3 n4:Nat}{a:pY}{b d:pZ}{y:Nat×Nat×(Nat×Nat)×(Nat×Nat)}(h:T0 c n3 n4 a b d=some y): ∃i k3 k4,a=some (i,0)/\b=some k3/\d=some k4/\y=(c,i,(k3,n3),(k4,n4)):=by
 unfold T0 at h;split at h
 .exact⟨_,_,_,rfl,rfl,rfl,(aSr h).symm⟩
 cases h
def a0Z {g g':Gh}{w w':q9}{c i k3 k4 n3 n4 i' k3' k4':Nat}{cs:pX}(hS: ∀b o,g.S b o->g'.S b o/\w'.cell? ⟨b,o,none⟩=w.cell? ⟨b,o,none⟩) (hJ: ∀p,g.J i=some p->∃q,g'.J i'=some q/\q.1=p.1/\q.2=p.2) (h3: ∀v,g.cur k3 n3=some v->g'.cur k3' n3=some v) (h4: ∀v,g.cur k4 n4=some v->g'.cur k4' n4=some v)
  (h:F6 g w (c,i,(k3,n3),(k4,n4)) cs):F6 g' w' (c,i',(k3',n3),(k4',n4)) cs:=by
 rcases h with h|⟨h0,b,α,e,s1,s2,a1,a2,a3,a4⟩
 .exact .inl h
 refine .inr ⟨h0,b,α,e,(hS _ _ s1).1,(hS _ _ s1).2.trans s2,fun q=>?_,fun q=>?_,fun q=>?_,fun q=>?_⟩
 .obtain⟨p,p1,p2⟩:=a1 q;obtain⟨r,r1,r2,r3⟩:=hJ p p1;exact⟨r,r1,by rw[p2,r2,r3]⟩
 .obtain⟨p,p1,p2⟩:=a2 q;obtain⟨r,r1,r2,r3⟩:=hJ p p1;exact⟨r,r1,by rw[p2,r2,r3]⟩
 .obtain⟨bb,cap,p1,p2⟩:=a3 q;exact⟨bb,cap,h3 _ p1,p2⟩
 obtain⟨bb,cap,p1,p2⟩:=a4 q;exact⟨bb,cap,h4 _ p1,p2⟩
def aJi {g:Gh}{w:q9}{ws:List rP}{t:Ty}{x y:t.den}{cs:pX}(r:Rd g w t x cs) (h:CB ws t x=some y):Rd (uR g ws) w t y cs:=by
 refine VA (g:=g) (g':=uR g ws) rfl (CB ws) (fun a b x=>rfl) (fun t x=>rfl) (fun _=>rfl) (fun _ _=>rfl) (fun _=>rfl) (fun _=>rfl) (fun _=>rfl) (fun _ _ x y cs h r=>?_) (fun x y cs h r=>?_) (fun x y cs h r=>?_) (fun x y cs h r=>?_) (fun x y cs h r=>?_) (fun _=>rfl) r h
 rotate_left 2
 .obtain⟨c,i,⟨k3,n3⟩,⟨k4,n4⟩⟩:=x;simp only[CB,a8Q] at h;obtain⟨i',k3',k4',e1,e2,e3,rfl⟩:=aAj h;obtain⟨d,u,x,toks,oc,rfl,h2,h0⟩:=NH e1;obtain⟨d3,rfl,h3⟩:=IL e2;obtain⟨d4,rfl,h4⟩:=IL e3;obtain rfl:oc=0:=by omega
  refine a0Z (g:=g) (g':=uR g ws) (fun _ _ h=>⟨h,rfl⟩) (fun p hp=>⟨⟨p.1,p.2+0,p.3⟩,?_,rfl,rfl⟩) (fun v hv=>?_) (fun v hv=>?_) r
  .show uQ g ws[0+d]? =_;rw[aSU,h2];simp [uQ,hp]
  .show zR g ws[0+d3]? n3=_;rw[aSU,h3];exact hv
  show zR g ws[0+d4]? n4=_;rw[aSU,h4];exact hv
 rotate_left 2
 .cases x with
  |none=>cases h;exact r
  |some q=>
   obtain⟨k,n⟩:=q;simp only[CB,a8P] at h;cases hc:vU k ws 0 with
   |none=>rw[hc] at h;cases h
   |some c=>
    rw[hc] at h;cases h;obtain⟨d,rfl,h2⟩:=IL hc;obtain⟨v,hv,hs⟩:=r;refine⟨v,?_,hs⟩;show zR g ws[0+d]? n=_;rw[aSU,h2];exact hv
 .cases x with
  |none=>cases h;exact r
  |some q=>
   obtain⟨i,o⟩:=q;simp only[CB,SZ] at h;cases hc:D8 i o ws 0 with
   |none=>rw[hc] at h;cases h
   |some q=>
    obtain⟨c,q⟩:=q;rw[hc] at h;cases h;obtain⟨d,u,x,toks,oc,rfl,h2,rfl⟩:=NH hc;obtain⟨p,hp,hv⟩:=r;refine⟨⟨p.1,p.2+oc,p.3⟩,?_,by have:=hv.1;rwa [<-aS5] at this,hv.2.imp id fun hv=>by rw[hv];simp [aS5]⟩;show uQ g ws[0+d]? =_;rw[aSU,h2];simp [uQ,hp]
 .cases x with
  |none=>cases h;exact r
  |some q=>
   obtain⟨i,o⟩:=q;simp only[CB,SZ] at h;cases hc:D8 i o ws 0 with
   |none=>rw[hc] at h;cases h
   |some q=>
    obtain⟨c,q⟩:=q;rw[hc] at h;cases h;obtain⟨d,u,x,toks,oc,rfl,h2,rfl⟩:=NH hc;obtain⟨p,hp,hv⟩:=r;refine⟨⟨p.1,p.2+oc,p.3⟩,?_,by rw[hv];simp [aS5]⟩;show uQ g ws[0+d]? =_;rw[aSU,h2];simp [uQ,hp]
 cases x with
 |none=>cases h;exact r
 |some i=>
  simp only[CB,a8O] at h;cases hc:vU i ws 0 with
  |none=>rw[hc] at h;cases h
  |some c=>
   rw[hc] at h;cases h;obtain⟨d,rfl,h2⟩:=IL hc;obtain⟨p,hp,hv⟩:=r;refine⟨p,?_,hv⟩;show uQ g ws[0+d]? =_;rw[aSU,h2];exact hp
def aJj {g:Gh}{w:q9}{ws:List rP}{t:Ty}{x y:t.den}{cs:pX}(h:a0W ws t x y) (r:Rd g w t x cs):Rd (uR g ws) w t y cs:=by
 rcases h with⟨hp,rfl⟩ |h
 .exact vW (g:=g) (g':=uR g ws) rfl hp r
 exact aJi r h
def aJk {ws:List rP}{t u:Ty}{x y:t.den}{o:Nat}{l:List u.den}(h:a0W ws t x y) (hg:r9 (.list u) t x o=some l):r9 (.list u) t y o=some l:=by
 rcases h with⟨_,rfl⟩ |h
 .exact hg
 exact a0Y (CB ws) (fun _ _ _=>rfl) (fun _ _=>rfl) h hg
structure QH (H:s7) (ws:List rP) (L:List qJ):Prop where
 len:ws.length=L.length
 ok: ∀(c:Nat) wh b,ws[c]? =some wh->L[c]? =some b->V9 H ws wh b
 nodup:(sF ws).Nodup
def a00: ∀(ws:List rP) (c:Nat),(sF ws)[c]? =(ws[c]?).map rP.id
 |[],c=>by simp [sF]
 |w::ws,0=>rfl
 |w::ws,c+1=>by simpa[sF] using a00 ws c
def IM: ∀ws ws':List rP,sF (ws++ws')=sF ws++sF ws'
 |[],_=>rfl
 |w::ws,ws'=>by simp [sF,IM ws ws']
def GN: ∀{i:Nat}{l:q8},zY i l=true↔i∈l
 |i,[]=>by simp [zY]
 |i,j::r=>by
  simp only[zY,aSC];by_cases h:i=j
  .simp [h]
  rw[aSo h,GN];simp [h]
def VB {ws:List rP}(h:(sF ws).Nodup) {c c':Nat}{x y:rP}(hx:ws[c]? =some x) (hy:ws[c']? =some y) (he:x.id=y.id):c=c':=by
 have h1:(sF ws)[c]? =some x.id:=by rw[a00,hx];rfl
 have h2:(sF ws)[c']? =some x.id:=by rw[a00,hy,he];rfl
 obtain⟨l1,e1⟩:=aSD.1 h1;obtain⟨l2,e2⟩:=aSD.1 h2;have hp:=aTa.1 h;rcases Nat.lt_trichotomy c c' with h3|h3|h3
 .exact absurd (e1.trans e2.symm) (hp c c' l1 l2 h3)
 .exact h3
 exact absurd (e2.trans e1.symm) (hp c' c l2 l1 h3)
def aAk: ∀{toks:pV}{q k:Nat},wZ toks q=some k->(q,k)∈toks
 |[],_,_,h=>by simp [wZ] at h
 |(q',k')::r,q,k,h=>by
  simp only[wZ] at h;split at h
  .rename_i e;subst e;simp only[aSm] at h;subst h;simp
  exact aSy _ (aAk h)
def aJl {v t:Ty}: ∀{u:Ty}{x:u.den}{o q:Nat}{y:t.den}{l:(Ty.list v).den},r9 t u x o=some y->r9 (.list v) u x (o+q)=some l->q<t.cells->r9 (.list v) t y q=some l:=by
 intro u
 induction u with
 |pair a b iha ihb=>
  intro x o q y l h g hq;by_cases hu:o=0/\t= .pair a b
  .obtain⟨rfl,rfl⟩:=hu;unfold r9 at h;rw[aUm rfl] at h;simp only[tV,aSm] at h;subst h;simpa using g
  .have keyh:(if o<a.cells then r9 t a x.1 o else r9 t b x.2 (o-a.cells))=some y:=by
    cases o with
    |zero=>
     unfold r9 at h;rw[aTP (fun e=>hu ⟨rfl,e.symm⟩)] at h;simpa using h
    |succ o=>simpa[r9] using h
   have keyg: ∀z,r9 (.list v) (.pair a b) x z=(if z<a.cells then r9 (.list v) a x.1 z else r9 (.list v) b x.2 (z-a.cells)):=by
    intro z;cases z with
    |zero=>
     conv=>lhs;unfold r9
     rw[aTP (by intro e;cases e),Nat.zero_sub]
    |succ z=>simp [r9]
   rw[keyg] at g;by_cases ho:o<a.cells
   .rw[aSn ho] at keyh;have hfit:o+t.cells<=a.cells:=by
     have: ∀{u:Ty}{x:u.den}{o:Nat}{y:t.den},r9 t u x o=some y->o+t.cells<=u.cells:=by
      intro u
      induction u with
      |pair a b iha ihb=>
       intro x o y h;have key: ∀o,(if o<a.cells then r9 t a x.1 o else r9 t b x.2 (o-a.cells))=some y->o+t.cells<=a.cells+b.cells:=by
        intro o h;by_cases ho:o<a.cells
        .rw[aSn ho] at h;have:=iha h;omega
        rw[aSo ho] at h;have:=ihb h;omega
       cases o with
       |zero=>
        unfold r9 at h;split at h
        .rename_i e;subst e;simp
        .exact key 0 (by simpa using h)
       |succ o=>exact key (o+1) (by simpa[r9] using h)
      |_=>
       intro x o y h;cases o with
       |zero=>
        unfold r9 at h;split at h
        .rename_i e;subst e;simp
        .simp at h
       |succ o=>simp [r9] at h
     exact this keyh
    rw[aSn pQ] at g;exact iha keyh g hq
   .rw[aSo ho] at keyh;rw[aSo pQ,show o+q-a.cells=o-a.cells+q from by omega] at g;exact ihb keyh g hq
 |_=>
  intro x o q y l h g hq;cases o with
  |zero=>
   unfold r9 at h;split at h
   .rename_i e;subst e;simp only[tV,aSm] at h
    try subst h
    simpa using g
   .simp at h
  |succ o=>simp [r9] at h
def aJm {g:Gh}{w:q9}{H:s7}{ws:List rP}{L:List qJ}(hH:sE g w H) (hm:QH H ws L):sE (uR g ws) w (r8 0 L):=by
 have wsL: ∀c b,qO (r8 0 L) c=some b->∃wh,ws[c]? =some wh/\V9 H ws wh b:=by
  intro c b h;rw[xD] at h;have hlt:c<ws.length:=hm.len▸(aSD.1 h).1;exact⟨ws[c],aSv hlt,hm.ok c _ b (aSv hlt) h⟩
 have own: ∀c b wh,ws[c]? =some wh->V9 H ws wh b->∀bb oo,s9 (uR g ws) c b bb oo->∃blk,qO H wh.id=some blk/\s9 g wh.id blk bb oo:=by
  intro c b wh hwh hw bb oo ho;cases wh with
  |box i u x toks off=>
   cases b with
   |cells t y ts=>
    obtain⟨h1,⟨y0,h2,h3⟩,h4⟩:=hw;obtain⟨p,hp,e1,e2,e3⟩:=ho;have hp':uQ g ws[c]? =some p:=hp;rw[hwh] at hp';obtain⟨p0,hp0,rfl⟩:=aSE.1 hp';obtain⟨p1,cs,hp1,hR,_⟩:=hH.blk i _ h1;obtain⟨c1,c2,c3,hcs,hl,hR2⟩:=BR hR h2;have l1:=sV hR;have l2:=sV hR2;rw[hcs] at l1;simp only[aSp] at l1;exact⟨_,h1,p0,hp0,e1,by simp at e2;omega,by simp at e3;omega⟩
   |_=>exact hw.elim
  |tok k=>
   cases b with
   |grow e cc m=>
    obtain⟨v,hv,hb⟩:=ho;have hv':zR g ws[c]? m=some v:=hv;rw[hwh] at hv';exact⟨_,hw,v,hv',hb⟩
   |map s t l=>
    obtain⟨p,hp,hb⟩:=ho;have hp':uQ g ws[c]? =some p:=hp;rw[hwh] at hp';exact⟨_,hw.1,p,hp',hb⟩
   |row e t l m=>
    obtain⟨v,hv,hb⟩:=ho;have hv':zR g ws[c]? m=some v:=hv;rw[hwh] at hv';exact⟨_,hw.1,v,hv',hb⟩
   |_=>exact hw.elim
 refine⟨fun c b h=>?_,fun c c' b b' bb oo hne h1 h2 o1 o2=>?_,hH.sl,hH.tab.1,fun c b bb oo h ho=>?_⟩
 rotate_right
 .obtain⟨wh,hwh,hw⟩:=wsL c b h;obtain⟨k1,g1,p1⟩:=own c b wh hwh hw bb oo ho;exact hH.tab.2 _ _ bb oo g1 p1
 .obtain⟨wh,hwh,hw⟩:=wsL c b h;cases wh with
  |box i u x toks off=>
   cases b with
   |cells t y ts=>
    obtain⟨h1,⟨y0,h2,h3⟩,h4⟩:=hw;obtain⟨p,cs,hp,hR,hra,hth,hns,htk⟩:=hH.blk i _ h1;obtain⟨c1,c2,c3,rfl,rfl,hR2⟩:=BR hR h2;have l1:=sV hR;have l2:=sV hR2;simp only[aSp] at l1;refine⟨⟨p.1,p.2+c1.length,p.3⟩,c2,?_,aJj h3 hR2,fun j v hv=>?_,⟨fun j hj=>?_,fun h0 s hs=>hth.2 pQ s hs⟩,fun j hj hs=>?_,fun q n hm'=>?_⟩
    .show uQ g ws[c]? =_;rw[hwh];simp [uQ,hp]
    .have:=hra (c1.length+j) v (by
      have hj':=(aSD.1 hv).1;rw[aSB,aSw pQ,aTb,aSG hj'];exact hv)
     rw[aS5];exact this
    .have:=hth.1 (c1.length+j) pQ;rw[aS5];exact this
    .exact hns (c1.length+j) pQ (by rw[<-aS5];exact hs)
    .obtain⟨k,k1,k2,k3⟩:=h4 q n hm';have hmem:(c1.length+q,k)∈toks:=aAk k2;obtain⟨u',l,v,g1,g2,g3⟩:=htk _ _ hmem;refine⟨u',l,v,aJk h3 (aJl h2 g1 k3),?_,?_⟩
     .rw[aSB,aSw pQ,aTb,aSG pQ] at g2;exact g2
     .show zR g ws[n]? _=_;rw[k1];exact g3
   |_=>exact hw.elim
  |tok k=>
   cases b with
   |grow e cc m=>
    have e1:(uR g ws).cur c=g.cur k:=by
     funext n;show zR g ws[c]? n=_;rw[hwh];rfl
    obtain⟨v,xs,hv,hr,hn,hs⟩:=hH.blk k _ hw;exact⟨v,xs,by rw[e1];exact hv,hr,fun m hm'=>by rw[e1];exact hn m hm',hs⟩
   |map s t l=>
    obtain⟨p,es,cl,hp,hp0,hh,hM,hS⟩:=hH.blk k _ hw.1;refine⟨p,es,cl,?_,hp0,hh,Q7 (g:=g) (g':=uR g ws) rfl hw.2.1 hw.2.2 hM,hS⟩;show uQ g ws[c]? =_;rw[hwh];exact hp
   |row e t l m=>
    have e1:(uR g ws).cur c=g.cur k:=by
     funext n;show zR g ws[c]? n=_;rw[hwh];rfl
    obtain⟨hl,v,xs,hv,hr,hF,hn,hs⟩:=hH.blk k _ hw.1;exact⟨hl,v,xs,by rw[e1];exact hv,hr,CH (fun _ _ h=>vW (g:=g) (g':=uR g ws) rfl hw.2 h) hF,fun m hm'=>by rw[e1];exact hn m hm',hs⟩
   |_=>exact hw.elim
 obtain⟨wh,hwh,hw⟩:=wsL c b h1;obtain⟨wh',hwh',hw'⟩:=wsL c' b' h2;obtain⟨k1,g1,p1⟩:=own c b wh hwh hw bb oo o1;obtain⟨k2,g2,p2⟩:=own c' b' wh' hwh' hw' bb oo o2;exact hH.dis wh.id wh'.id k1 k2 bb oo (fun e=>hne (VB hm.nodup hwh hwh' e)) g1 g2 p1 p2
def aAl {H:s7}{ws more:List rP}: ∀{wh:rP}{b:qJ},V8 H ws wh b->V8 H (ws++more) wh b
 | .box _ _ _ _ _,.cells _ _ _,⟨h1,h2,h4⟩=>⟨h1,h2,fun q n h=>let ⟨k,k1,k2⟩:=h4 q n h;⟨k,by rw[aSG (aSD.1 k1).1];exact k1,k2⟩⟩
 | .box _ _ _ _ _,.grow _ _ _,h=>h.elim
 | .box _ _ _ _ _,.dead,h=>h.elim
 | .box _ _ _ _ _,.row _ _ _ _,h=>h.elim
 | .box _ _ _ _ _,.map _ _ _,h=>h.elim
 | .box _ _ _ _ _,.iter _ _,h=>h.elim
 | .tok _,.iter _ _,h=>h.elim
 | .tok _,.row _ _ _ _,h=>h
 | .tok _,.grow _ _ _,h=>h
 | .tok _,.map _ _ _,h=>h
 | .tok _,.cells _ _ _,h=>h.elim
 | .tok _,.dead,h=>h.elim
def L5 (g:Gh) (w:q9) (ws more:List rP):Le (uR g ws) w (uR g (ws++more)) w:=by
 refine⟨fun _ _ h=>h,fun _ _ _=>rfl,fun c p h=>?_,fun c n v h=>?_⟩
 .have h':uQ g ws[c]? =some p:=h;show uQ g (ws++more)[c]? =some p;cases hc:ws[c]? with
  |none=>rw[hc] at h';cases h'
  |some wh=>rw[aSG (aSD.1 hc).1];exact h'
 have h':zR g ws[c]? n=some v:=h;show zR g (ws++more)[c]? n=some v;cases hc:ws[c]? with
 |none=>rw[hc] at h';cases h'
 |some wh=>rw[aSG (aSD.1 hc).1];exact h'
def L6 {g g':Gh}{w w':q9}(h:Le g w g' w'): ∀{ss:List qM}{vs:pX},vH g w ss vs->vH g' w' ss vs
 |[],_,r=>r
 |_::_,_,⟨v,vs',e,r1,r2⟩=>⟨v,vs',e,DA h r1,L6 h r2⟩
def DX {g:Gh}{w:q9}: ∀{ss:List qM}{vs:pX}{s:qM}{v:qB},vH g w ss vs->rO g w s v->vH g w (ss++[s]) (vs++[v])
 |[],_,_,_,h,k=>by rw[show _=[] from h];exact⟨_,_,rfl,k,rfl⟩
 |_::_,_,_,_,⟨v,vs',e,r1,r2⟩,k=>⟨v,vs'++_,by rw[e];rfl,r1,DX r2 k⟩
def GM.tok {H:s7}{ws:List rP}{L:List qJ}(h:GM H ws L) {k:Nat}{b0:qJ}(hk:V8 H (ws++[.tok k]) (.tok k) b0) (hn:k∉sF ws):GM H (ws++[.tok k]) (L++[b0]):=by
 refine⟨by simp [h.len],fun i wh b h1 h2=>?_,?_⟩
 .by_cases hi:i<ws.length
  .rw[aSG hi] at h1;rw[aSG (h.len▸hi)] at h2;exact aAl (h.ok i wh b h1 h2)
  rw[aSw pQ] at h1;rw[aSw (by rw[<-h.len];omega),<-h.len] at h2;obtain⟨d,hd⟩: ∃d,i-ws.length=d:=⟨_,rfl⟩;rw[hd] at h1 h2;cases d with
  |zero=>
   simp only[aSX,aSm] at h1 h2;subst h1;subst h2;exact hk
  |succ d=>simp at h1
 rw[IM];exact List.nodup_append.2 ⟨h.nodup,by simp [sF],fun a ha b hb=>by
  simp only[sF,rP.id,aSI] at hb;subst hb;intro e;exact hn (e▸ha)⟩
def aAm: ∀{os:q8}{n q m:Nat},(q,m)∈K7 os n->∃j:Nat,os[j]? =some q/\m=n+j
 |[],_,_,_,h=>by simp [K7] at h
 |q'::os,n,q,m,h=>by
  simp only[K7,aSC,aSQ] at h;rcases h with⟨rfl,rfl⟩ |h
  .exact⟨0,rfl,rfl⟩
  obtain⟨j,h1,h2⟩:=aAm h;exact⟨j+1,by simpa using h1,pQ⟩
def aAn {n:Nat}: ∀{os:q8}{j q:Nat},MV n os=true->os[j]? =some q->q<n
 |[],_,_,_,h=>by simp at h
 |q'::os,0,q,h,h2=>by
  simp only[MV,aSA,aSx] at h;simp only[aSX,aSm] at h2;exact h2▸h.1
 |q'::os,j+1,q,h,h2=>by
  simp only[MV,aSA] at h;exact aAn h.2 (by simpa using h2)
def VC {H:s7}{toks:pV}{o:Nat}: ∀{os:q8}{a a':t6},yN H toks o os (some a)=some a'->
  ∃(ks:q8) (bs:List qJ),ks.length=os.length/\bs.length=os.length/\a'.args=a.args/\a'.H.reverse=a.H.reverse++bs/\a'.ws.reverse=a.ws.reverse++ks.map rP.tok/\a'.n=a.n+os.length/\
   (∀(j:Nat) q k,os[j]? =some q->ks[j]? =some k->wZ toks (o+q)=some k)/\(∀(j:Nat) k b,ks[j]? =some k->bs[j]? =some b->qO H k=some b/\∃e c m,b= .grow e c m)/\(∀k∈ks,k∉sF a.ws.reverse)/\ks.Nodup
 |[],a,a',h=>by
  simp only[yN,aSm] at h;subst h;exact⟨[],[],rfl,rfl,rfl,by simp,by simp,rfl,by simp,by simp,by simp,by simp⟩
 |q::os,a,a',h=>by
  simp only[yN] at h;have none_no: ∀os,yN H toks o os none=none:=by
   intro os
   induction os with
   |nil=>rfl
   |cons q os ih=>
    have:zK H (wZ toks (o+q)) none=none:=by
     cases wZ toks (o+q) with
     |none=>rfl
     |some k=>simp only[zK];cases qO H k with
      |none=>rfl
      |some b=>cases b<;>rfl
    simp only[yN,this,ih]
  cases hk:wZ toks (o+q) with
  |none=>rw[hk] at h;simp only[zK,none_no] at h;cases h
  |some k=>
   rw[hk] at h;simp only[zK] at h;cases hb:qO H k with
   |none=>rw[hb] at h;simp only[C7,none_no] at h;cases h
   |some b=>
    rw[hb] at h;cases b with
    |grow e c m=>
     simp only[C7] at h;by_cases hm:zY k (sF a.ws)=true
     .rw[aSn hm,none_no] at h;cases h
     .rw[aSo hm] at h;obtain⟨ks,bs,h1,h2,h3,h4,h5,h6,h7,h8,h9,h10⟩:=VC h;simp only[aS3] at h4 h5 h9;have hrev: ∀ws:List rP,∀i,i∈sF ws.reverse↔i∈sF ws:=by
       intro ws i
       induction ws with
       |nil=>simp
       |cons x r ih=>rw[aS3,IM];simp [sF,ih,or_comm]
      refine⟨k::ks,.grow e c m::bs,by simp [h1],by simp [h2],h3,by rw[h4];simp,by rw[h5];simp,by rw[h6];simp;omega,fun j q' k'=>?_,fun j k' b'=>?_,fun k' hk'=>?_,?_⟩
      .cases j with
       |zero=>intro e1 e2;simp only[aSX,aSm] at e1 e2;subst e1;subst e2;exact hk
       |succ j=>intro e1 e2;exact h7 j q' k' (by simpa using e1) (by simpa using e2)
      .cases j with
       |zero=>intro e1 e2;simp only[aSX,aSm] at e1 e2;subst e1;subst e2;exact⟨hb,_,_,_,rfl⟩
       |succ j=>intro e1 e2;exact h8 j k' b' (by simpa using e1) (by simpa using e2)
      .rcases aSC.1 hk' with rfl|hk'
       .rw[hrev];exact fun hmem=>hm (GN.2 hmem)
       intro hmem;exact h9 k' hk' (by rw[IM];exact List.mem_append_left _ hmem)
      .refine List.nodup_cons.2 ⟨fun hmem=>h9 k hmem (by rw[IM];simp [sF,rP.id]),h10⟩
    |cells t y ts=>simp only[C7,none_no] at h;cases h
    |row=>simp only[C7,none_no] at h;cases h
    |map=>simp only[C7,none_no] at h;cases h
    |iter=>simp only[C7,none_no] at h;cases h
    |dead=>simp only[C7,none_no] at h;cases h
def aAo: ∀ks:q8,sF (ks.map rP.tok)=ks
 |[]=>rfl
 |k::ks=>by simp [sF,rP.id,aAo ks]
def GM.box {H:s7}{ws:List rP}{L:List qJ}(h:GM H ws L) {t u:Ty}{x:u.den}{y:t.den}{toks:pV}{i o:Nat}{os ks:q8}{bs:List qJ}(hi:qO H i=some (.cells u x toks)) (hy:r9 t u x o=some y) (hlt:MV t.cells os=true) (hn:i∉sF ws)
  (h1:ks.length=os.length) (h2:bs.length=os.length) (h7: ∀(j:Nat) q k,os[j]? =some q->ks[j]? =some k->wZ toks (o+q)=some k) (h8: ∀(j:Nat) k b,ks[j]? =some k->bs[j]? =some b->qO H k=some b/\∃e c m,b= .grow e c m) (h9: ∀k∈ks,k∉sF (ws++[.box i u x toks o])) (h10:ks.Nodup):
  GM H ((ws++[.box i u x toks o])++ks.map rP.tok) ((L++[.cells t y (K7 os (ws.length+1))])++bs):=by
 have hlen1:(ws++[rP.box i u x toks o]).length=ws.length+1:=by simp
 have hlen2:(L++[qJ.cells t y (K7 os (ws.length+1))]).length=ws.length+1:=by simp [h.len]
 refine⟨by simp [h.len,h1,h2],fun c wh b e1 e2=>?_,?_⟩
 .by_cases hc:c<ws.length
  .rw[aSG pQ,aSG hc] at e1;rw[aSG pQ,aSG (h.len▸hc)] at e2;rw[aSB];exact aAl (h.ok c wh b e1 e2)
  by_cases hc2:c=ws.length
  .subst hc2;rw[aSG pQ,aSw (aSJ _),aTT] at e1;rw[aSG pQ,aSw (by rw[h.len];exact aSJ _),h.len,aTT] at e2;simp only[aSX,aSm] at e1 e2;subst e1;subst e2;refine⟨hi,hy,fun q n hm=>?_⟩;rw[<-h.len] at hm;obtain⟨j,hj,rfl⟩:=aAm hm;have hjl:j<ks.length:=by rw[h1];exact(aSD.1 hj).1
   refine⟨ks[j],?_,h7 j q _ hj (aSv hjl),aAn hlt hj⟩;rw[aSw pQ,hlen1,show ws.length+1+j- (ws.length+1)=j from by omega];simp [hjl]
  rw[aSw pQ,hlen1] at e1;rw[aSw pQ,hlen2] at e2;rw[List.getElem?_map] at e1;obtain⟨k,hk,rfl⟩:=aSE.1 e1;obtain⟨hg,e,cc,m,rfl⟩:=h8 _ k b hk e2;exact hg
 rw[IM,aAo];refine List.nodup_append.2 ⟨?_,h10,fun a ha b hb e=>h9 b hb (e▸ha)⟩;rw[IM];exact List.nodup_append.2 ⟨h.nodup,by simp [sF],fun a ha b hb=>by
  simp only[sF,rP.id,aSI] at hb;subst hb;intro e;exact hn (e▸ha)⟩
def QI (ws:List rP) (i:Nat):i∈sF ws.reverse↔i∈sF ws:=by
 induction ws with
 |nil=>simp
 |cons x r ih=>rw[aS3,IM];simp [sF,ih,or_comm]
structure BU (g:Gh) (w:q9) (H:s7) (vals:pX) (a:t6):Prop where
 n:a.n=a.ws.reverse.length
 m:GM H a.ws.reverse a.H.reverse
 args:vH (uR g a.ws.reverse) w a.args.reverse vals
def aJn {g:Gh}{w:q9}{ws:List rP}{t:Ty}(hp:t.pure=true) {x:t.den}{v:qB}{k:pZ}(h:rO g w (.val t x,k) v):rO (uR g ws) w (.val t x,none) v:=
 ⟨h.1.imp (fun⟨a,cs,e,q⟩=>⟨a,cs,e,vW (g:=g) (g':=uR g ws) rfl hp q⟩) (fun⟨a,q⟩=>⟨a,vW (g:=g) (g':=uR g ws) rfl hp q⟩),trivial⟩
def aJo {H:s7}{k:pZ}{a b:t6}{l m:List qM}(h:zK H k (some ⟨l,a.H,a.ws,a.n⟩)=some b):b.args=l/\zK H k (some ⟨m,a.H,a.ws,a.n⟩)=some ⟨m,b.H,b.ws,b.n⟩:=by
 cases k with
 |none=>cases h
 |some k=>
  simp only[zK] at h|-;cases hb:qO H k with
  |none=>rw[hb] at h;simp [C7] at h
  |some bl=>
   rw[hb] at h;cases bl with
   |grow e c n=>
    simp only[C7] at h|-;split at h
    .cases h
    .rename_i hc;rw[aSo hc];cases h;exact⟨rfl,rfl⟩
   |_=>simp [C7] at h
def aAp {H:s7}{toks:pV}{o:Nat}{m:List qM}: ∀{os:q8}{a b:t6},yN H toks o os (some a)=some b->b.args=a.args/\yN H toks o os (some ⟨m,a.H,a.ws,a.n⟩)=some ⟨m,b.H,b.ws,b.n⟩
 |[],a,b,h=>by simp only[yN,aSm] at h;subst h;exact⟨rfl,rfl⟩
 |q::os,a,b,h=>by
  simp only[yN] at h|-;have none_no: ∀os,yN H toks o os none=none:=by
   intro os
   induction os with
   |nil=>rfl
   |cons q os ih=>
    have:zK H (wZ toks (o+q)) none=none:=by
     cases wZ toks (o+q) with
     |none=>rfl
     |some k=>simp only[zK];cases qO H k with
      |none=>rfl
      |some b=>cases b<;>rfl
    simp only[yN,this,ih]
  cases hm:zK H (wZ toks (o+q)) (some a) with
  |none=>rw[hm,none_no] at h;cases h
  |some c=>
   rw[hm] at h;obtain⟨h1,h2⟩:=aJo (a:=a) (l:=a.args) (m:=m) hm;obtain⟨h3,h4⟩:=aAp (m:=m) h;rw[h2];exact⟨h3.trans h1,h4⟩
def aJp {H:s7}{t:Ty}{os:q8}{i o:Nat}{a b:t6}{m:List qM}(h:vT H t os i o a (qO H i)=some b):vT H t os i o ⟨m,a.H,a.ws,a.n⟩ (qO H i)=some ⟨(.val .ref (some (a.n,0)),none)::m,b.H,b.ws,b.n⟩:=by
 cases hb:qO H i with
 |none=>rw[hb] at h;simp [vT] at h
 |some bl=>
  rw[hb] at h;cases bl with
  |cells u x toks=>
   simp only[vT] at h|-;cases hy:r9 t u x o with
   |none=>rw[hy] at h;simp [EX] at h
   |some y=>
    rw[hy] at h;simp only[EX] at h|-;split at h
    .rename_i hc;rw[aSn hc];exact(aAp (m:=(.val .ref (some (a.n,0)),none)::m) h).2
    .cases h
  |_=>simp [vT] at h
def aAq {g:Gh}{i o:Nat}{p:Pl}{v:qB}: ∀{l:pV}{vs:pX},yD g l vs->g.J i=some p->v= .pointer (some ⟨p.1,p.2+o,none⟩)->yD g (l++[(i,o)]) (vs++[v])
 |[],vs,h,hp,hv=>by rw[show vs=[] from h];exact⟨p,[],hp,by rw[hv];rfl,rfl⟩
 |(_,_)::l,vs,⟨q,vs',h1,h2,h3⟩,hp,hv=>⟨q,vs'++[v],h1,by rw[h2];rfl,aAq h3 hp hv⟩
def a01 {α:Type}: ∀(l acc:List α),yX l acc=l.reverse++acc
 |[],_=>rfl
 |x::l,acc=>by simp [yX,a01 l]
def aAr {g:Gh}{w:q9}{H:s7}(hH:sE g w H) {t:Ty}{os:q8}{i o:Nat}{vals:pX}{a a':t6}(ha:BU g w H vals a) {p:Pl}(hp:g.J i=some p) (h:vT H t os i o a (qO H i)=some a'):
  BU g w H vals ⟨a.args,a'.H,a'.ws,a'.n⟩/\∃more,a'.ws.reverse=a.ws.reverse++more/\a'.args=(.val .ref (some (a.n,0)),none)::a.args/\(uR g a'.ws.reverse).J a.n=some ⟨p.1,p.2+o,p.3⟩:=by
 cases hb:qO H i with
 |none=>rw[hb] at h;simp [vT] at h
 |some b=>
  rw[hb] at h;cases b with
  |cells u x toks=>
   simp only[vT] at h;cases hy:r9 t u x o with
   |none=>rw[hy] at h;simp [EX] at h
   |some y=>
    rw[hy] at h;simp only[EX] at h;split at h
    .rename_i hc;simp only[aSA,aSR] at hc;obtain⟨ks,bs,h1,h2,h3,h4,h5,h6,h7,h8,h9,h10⟩:=VC h;simp only[aS3] at h3 h4 h5 h6 h9;have hnm:i∉sF a.ws.reverse:=fun hmem=>by
      have:=GN.2 ((QI _ _).1 hmem);rw[hc.2] at this;cases this
     have e5:a'.ws.reverse=a.ws.reverse++([rP.box i u x toks o]++ks.map rP.tok):=by rw[h5];simp only[aSB]
     refine⟨⟨by rw[h6];simp only;rw[h5,ha.n];simp [h1];omega,?_,?_⟩,_,e5,h3,?_⟩
     .simp only;rw[h4,h5,ha.n];exact ha.m.box hb hy hc.1 hnm h1 h2 h7 h8 h9 h10
     .simp only;rw[e5];exact L6 (L5 g w _ _) ha.args
     show uQ g a'.ws.reverse[a.n]? =_;rw[e5,ha.n,aSw (aSJ _),aTT];show (g.J i).map _=_;rw[hp];rfl
    .cases h
  |grow=>simp [vT] at h
  |row=>simp [vT] at h
  |map=>simp [vT] at h
  |iter=>simp [vT] at h
  |dead=>simp [vT] at h
def aAs {H:s7}{f:FuncId}{args0:List qM}: ∀{ks:List (Ty×q8)}{cs ids:pV}{a a':t6},xN H f args0 ks cs ids (some a)=some a'->∃s more,a'.args=s::args0/\a'.ws.reverse=a.ws.reverse++more
 |[],[],ids,a,a',h=>by
  simp only[xN,aSm] at h;subst h;exact⟨_,[],rfl,by simp⟩
 |[],_::_,_,_,_,h=>by simp [xN] at h
 |_::_,[],_,_,_,h=>by simp [xN] at h
 |(t,os)::ks,(i,o)::cs,ids,a,a',h=>by
  simp only[xN] at h;cases hb:vT H t os i o a (qO H i) with
  |none=>rw[hb] at h;cases ks<;>cases cs<;>simp [xN] at h
  |some b=>
   rw[hb] at h;obtain⟨s,more,h1,h2⟩:=aAs h;obtain⟨more0,h3⟩: ∃more0,b.ws.reverse=a.ws.reverse++more0:=by
    unfold vT at hb;split at hb
    .unfold EX at hb;split at hb
     .split at hb
      .obtain⟨ks,bs,_,_,_,_,h5,_⟩:=VC hb;exact⟨_,by rw[h5];simp only[aS3];exact aSB ..⟩
      cases hb
     cases hb
    cases hb
   exact⟨s,more0++more,h1,by rw[h2,h3,aSB]⟩
def aAt {g:Gh}{w:q9}{H:s7}(hH:sE g w H) {f:FuncId}{args0:List qM}{vals:pX}: ∀{ks:List (Ty×q8)}{cs:pV}{ids:pV}{vs us:pX}{a a':t6},BU g w H vals ⟨args0,a.H,a.ws,a.n⟩->
  yD g cs vs->yD (uR g a.ws.reverse) ids.reverse us->xN H f args0 ks cs ids (some a)=some a'->
  BU g w H vals ⟨args0,a'.H,a'.ws,a'.n⟩/\∃ids',a'.args=(.val .clo (some (f,ids')),none)::args0/\(∃more,a'.ws.reverse=a.ws.reverse++more)/\yD (uR g a'.ws.reverse) ids' (us++vs)
 |[],[],ids,vs,us,a,a',ha,hv,hu,h=>by
  simp only[xN,a01,List.append_nil,aSm] at h;subst h;rw[show vs=[] from hv,List.append_nil];exact⟨ha,_,rfl,⟨[],by simp⟩,hu⟩
 |[],_::_,_,_,_,_,_,_,_,_,h=>by simp [xN] at h
 |_::_,[],_,_,_,_,_,_,_,_,h=>by simp [xN] at h
 |(t,os)::ks,(i,o)::cs,ids,vs,us,a,a',ha,⟨p,vs',hp,hv1,hv2⟩,hu,h=>by
  simp only[xN] at h;cases hb:vT H t os i o a (qO H i) with
  |none=>rw[hb] at h;cases ks<;>cases cs<;>simp [xN] at h
  |some b=>
   rw[hb] at h;have hb':vT H t os i o ⟨args0,a.H,a.ws,a.n⟩ (qO H i)=some ⟨(.val .ref (some (a.n,0)),none)::args0,b.H,b.ws,b.n⟩:=aJp hb;obtain⟨q1,more,q2,q3,q4⟩:=aAr hH ha hp hb';simp only at q1 q2 q3 q4;have hmono:=L5 g w a.ws.reverse more;rw[<-q2] at hmono;have hu2:yD (uR g b.ws.reverse) ((a.n,0)::ids).reverse (us++[.pointer (some ⟨p.1,p.2+o,none⟩)]):=by
    simp only[aS3];exact aAq (a0o hmono.J hu) q4 pS
   obtain⟨z1,ids',z2,⟨more',z3⟩,z4⟩:=aAt hH (a:=b) q1 hv2 hu2 h;refine⟨z1,ids',z2,⟨more++more',by rw[z3,q2,aSB]⟩,?_⟩;rw[hv1];rw[aSB] at z4;exact z4
def aAu {g:Gh}{w:q9}{H:s7}(hH:sE g w H) {p:PK}{s:qM}{v:qB}{vals:pX}{a a':t6}(ha:BU g w H vals a) (hs:rO g w s v) (h:xO H a p s=some a'):BU g w H (vals++[v]) a':=by
 unfold xO at h;split at h
 .rename_i f k;simp only[SX,aSm] at h;subst h;refine⟨ha.n,ha.m,?_⟩;simp only[aS3];refine DX ha.args ⟨?_,trivial⟩;rcases hs.1 with⟨h1,_⟩ |⟨h1,vs,h2,h3⟩
  .cases h1
  rw[show vs=[] from h2] at h3;exact .inr ⟨rfl,[],rfl,h3⟩
 .rename_i t x k _;simp only[SW] at h;split at h
  .rename_i hp;simp only[aSm] at h;subst h;refine⟨ha.n,ha.m,?_⟩;simp only[aS3];exact DX ha.args (aJn hp hs)
  cases h
 .simp only[SY,aSm] at h;subst h;refine⟨ha.n,ha.m,?_⟩;simp only[aS3];exact DX ha.args ⟨hs.1,trivial⟩
 .rename_i t x k;cases hb:qO H k with
  |none=>rw[hb] at h;simp [C8] at h
  |some b=>
   rw[hb] at h;cases b with
   |grow e c m=>
    simp only[C8] at h;split at h
    .rename_i hc;simp only[aSA,aSR] at hc;simp only[aSm] at h;subst h;have hnm:k∉sF a.ws.reverse:=fun hmem=>by
      have:=GN.2 ((QI _ _).1 hmem);rw[hc.2] at this;cases this
     refine⟨by simp [ha.n],by simpa using ha.m.tok (b0:= .grow e c m) hb hnm,?_⟩;simp only[aS3];refine DX (L6 (L5 g w _ _) ha.args) (V5 (g:=g) (g':=uR g (a.ws.reverse++[.tok k])) (k':=some a.n) rfl hc.1 (fun _ _=>⟨_,rfl⟩) hs (fun c' e1=>?_) (fun e1=>by cases e1));cases e1;refine⟨_,rfl,fun n u hu=>?_⟩;show zR g (a.ws.reverse++[rP.tok k])[a.n]? n=some u;rw[ha.n,aSw (aSJ _),aTT];exact hu
    .cases h
   |cells=>simp [C8] at h
   |row=>simp [C8] at h
   |map=>simp [C8] at h
   |iter=>simp [C8] at h
   |dead=>simp [C8] at h
 .rename_i t os i o k;obtain⟨p,hp,hv⟩:=xC hs.1;obtain⟨h1,more,h2,h3,h4⟩:=aAr hH ha hp h;refine⟨h1.n,h1.m,?_⟩;rw[h3];simp only[aS3];exact DX h1.args ⟨.inr ⟨rfl,_,h4,by rw[hv];rfl⟩,trivial⟩
 .rename_i i k;cases hb:qO H i with
  |none=>rw[hb] at h;simp [C9] at h
  |some b=>
   rw[hb] at h;cases b with
   |map s t l=>
    simp only[C9] at h;split at h
    .rename_i hc;simp only[aSA,aSR] at hc;simp only[aSm] at h;subst h;have hnm:i∉sF a.ws.reverse:=fun hmem=>by
      have:=GN.2 ((QI _ _).1 hmem);rw[hc.2] at this;cases this
     refine⟨by simp [ha.n],by simpa using ha.m.tok (b0:= .map s t l) ⟨hb,hc.1.1,hc.1.2⟩ hnm,?_⟩;simp only[aS3];obtain⟨p,hp,hv⟩: ∃p,g.J i=some p/\v= .map (some p.1):=by
      obtain⟨p,h1,e⟩:=xB rfl hs.1;simp only[aS8,and_true] at e;exact⟨p,h1,e⟩
     refine DX (L6 (L5 g w _ _) ha.args) ⟨.inr ⟨rfl,p,?_,by rw[hv]⟩,trivial⟩;show uQ g (a.ws.reverse++[rP.tok i])[a.n]? =_;rw[ha.n,aSw (aSJ _),aTT];exact hp
    .cases h
   |cells=>simp [C9] at h
   |row=>simp [C9] at h
   |grow=>simp [C9] at h
   |iter=>simp [C9] at h
   |dead=>simp [C9] at h
 .rename_i k n k';cases hb:qO H k with
  |none=>rw[hb] at h;simp [xM] at h
  |some b=>
   rw[hb] at h;cases b with
   |row e t l m=>
    simp only[xM] at h;split at h
    .rename_i hc;simp only[aSA,aSR] at hc;simp only[aSm] at h;subst h;have hnm:k∉sF a.ws.reverse:=fun hmem=>by
      have:=GN.2 ((QI _ _).1 hmem);rw[hc.2] at this;cases this
     refine⟨by simp [ha.n],by simpa using ha.m.tok (b0:= .row e t l m) ⟨hb,hc.1⟩ hnm,?_⟩;simp only[aS3];obtain⟨h1,h2⟩:=hs.1;refine DX (L6 (L5 g w _ _) ha.args) ⟨⟨?_,h2⟩,trivial⟩;show zR g (a.ws.reverse++[rP.tok k])[a.n]? n=_;rw[ha.n,aSw (aSJ _),aTT];exact h1
    .cases h
   |cells=>simp [xM] at h
   |grow e c m=>
    simp only[xM] at h;split at h
    .rename_i hc;simp only[aSR] at hc;simp only[aSm] at h;subst h;have hnm:k∉sF a.ws.reverse:=fun hmem=>by
      have:=GN.2 ((QI _ _).1 hmem);rw[hc] at this;cases this
     refine⟨by simp [ha.n],by simpa using ha.m.tok (b0:= .grow e c m) hb hnm,?_⟩;simp only[aS3];obtain⟨h1,h2⟩:=hs.1;refine DX (L6 (L5 g w _ _) ha.args) ⟨⟨?_,h2⟩,trivial⟩;show zR g (a.ws.reverse++[rP.tok k])[a.n]? n=_;rw[ha.n,aSw (aSJ _),aTT];exact h1
    .cases h
   |map=>simp [xM] at h
   |iter=>simp [xM] at h
   |dead=>simp [xM] at h
 .rename_i ks f cs k';obtain⟨vs,hv1,hv2⟩: ∃vs,yD g cs vs/\v= .func (.func f) #[] vs.toArray:=by
   rcases hs.1 with⟨h1,_⟩ |⟨_,vs,h2,h3⟩
   .cases h1
   simp only[aS8,and_true] at h3;exact⟨vs,h2,h3⟩
  obtain⟨z1,ids',z2,_,z4⟩:=aAt hH (ids:=[]) (a:=a) (us:=[]) ha hv1 rfl h;refine⟨z1.n,z1.m,?_⟩;rw[z2];simp only[aS3];exact DX z1.args ⟨.inr ⟨rfl,vs,by simpa using z4,by rw[hv2]⟩,trivial⟩
 .rename_i i o k;obtain⟨p,hp,hv⟩:=xC hs.1;rw[a01,List.append_nil] at h;cases hc:D8 i o a.ws.reverse 0 with
  |none=>rw[hc] at h;cases h
  |some q=>
   obtain⟨c,q⟩:=q;rw[hc] at h;simp only[PD,aSm] at h;subst h;obtain⟨d,u,x,toks,oc,rfl,h2,rfl⟩:=NH hc;refine⟨ha.n,ha.m,?_⟩;simp only[aS3];refine DX ha.args ⟨.inr ⟨rfl,⟨p.1,p.2+oc,p.3⟩,?_,by rw[hv];simp [aS5]⟩,trivial⟩;show uQ g a.ws.reverse[0+d]? =_;rw[aSU,h2];simp [uQ,hp]
 cases h
def aAv {g:Gh}{w:q9}{H:s7}(hH:sE g w H): ∀{ps:List PK}{ss:List qM}{vs vals:pX}{a a':t6},BU g w H vals a->vH g w ss vs->xP H ps ss (some a)=some a'->BU g w H (vals++vs) a'
 |[],[],vs,vals,a,a',ha,hs,h=>by
  simp only[xP,aSm] at h;subst h;rw[show vs=[] from hs,List.append_nil];exact ha
 |p::ps,s::ss,vs,vals,a,a',ha,⟨v,vs',e,h1,h2⟩,h=>by
  simp only[xP] at h;cases ho:xO H a p s with
  |none=>rw[ho] at h;cases ps<;>cases ss<;>simp [xP] at h
  |some a1=>
   rw[ho] at h;have:=aAv hH (aAu hH ha h1 ho) h2 h;rw[e];simpa using this
 |[],_::_,_,_,_,_,_,_,h=>by simp [xP] at h
 |_::_,[],_,_,_,_,_,_,h=>by simp [xP] at h
def BU.nil (g:Gh) (w:q9) (H:s7):BU g w H [] ⟨[],[],[],0⟩:=
 ⟨rfl,⟨rfl,fun c wh b h _=>by simp at h,by simp [sF]⟩,rfl⟩
def aAw: ∀(l:List qJ) (n:Nat),I5 l n=l[n]?
 |[],_=>by simp [I5]
 |_::_,0=>rfl
 |_::r,n+1=>by simpa[I5] using aAw r n
def aJq {g:Gh}{w:q9}: ∀{t:Ty}{x:t.den}{cs:pX}{o:Nat}{y:pY},Rd g w t x cs->CA t x o=some y->∃cs',BQ g y cs':=by
 intro t
 induction t with
 |pair a b iha ihb=>
  intro x cs o y r h;obtain⟨c1,c2,_,r1,r2⟩:=r;simp only[CA] at h;split at h
  .exact iha r1 h
  .exact ihb r2 h
 |rl e u=>
  intro x cs o y r h;cases o with
  |zero=>simp only[CA,aSm] at h;subst h;exact⟨cs,r⟩
  |succ o=>simp [CA] at h
 |_=>intro x cs o y r h;cases o<;>simp [CA] at h
def aJr {g:Gh}{w:q9}{H:s7}(hH:sE g w H) {vals:pX}{a:t6}(ha:BU g w H vals a) (c q:Nat) (pk:PK): ∃v,rO g w (K8 q pk (I5 a.H c)) v:=by
 rw[aAw];have any: ∃v,rO g w (.any,none) v:=⟨undef,trivial,trivial⟩;cases hb:a.H[c]? with
 |none=>cases pk<;>exact any
 |some b=>
  cases b with
  |cells t y ts=>
   have hlt:c<a.H.length:=(aSD.1 hb).1;have hb':a.H.reverse[a.H.length-1-c]? =some (.cells t y ts):=by
    rw[List.getElem?_reverse pQ,show a.H.length-1- (a.H.length-1-c)=c by omega];exact hb
   obtain⟨wh,hwh⟩: ∃wh,a.ws.reverse[a.H.length-1-c]? =some wh:=by
    have hl:=ha.m.len;simp only[List.length_reverse] at hl;exact⟨_,aSv (by rw[List.length_reverse];omega)⟩
   have hw:=ha.m.ok _ wh _ hwh hb';cases wh with
   |tok k=>exact hw.elim
   |box i u x toks off=>
    obtain⟨h1,h2,_⟩:=hw;obtain⟨p,cs,hp,hR,_⟩:=hH.blk i _ h1;obtain⟨c1,c2,c3,hcs,hl,hR2⟩:=BR hR h2;cases pk with
    |p t' os=>
     simp only[K8];cases hg:r9 .ref t y q with
     |none=>exact any
     |some z=>
      cases z with
      |none=>exact any
      |some z=>
       obtain⟨d1,d2,d3,_,_,hR3⟩:=BR hR2 hg;obtain⟨p',hp',e⟩:=hR3;exact⟨_,.inr ⟨rfl,p',hp',rfl⟩,trivial⟩
    |m=>
     simp only[K8];cases hg:r9 .mp t y q with
     |none=>exact any
     |some z=>
      cases z with
      |none=>exact any
      |some z=>
       obtain⟨d1,d2,d3,_,_,hR3⟩:=BR hR2 hg;obtain⟨p',hp',e⟩:=hR3;exact⟨_,.inr ⟨rfl,p',hp',rfl⟩,trivial⟩
    |v=>exact any
    |own=>exact any
    |f ks=>exact any
    |q=>exact any
    |r=>
     simp only[K8];cases hg:CA t y q with
     |none=>exact any
     |some z=>
      cases z with
      |none=>exact any
      |some z=>
       obtain⟨cs',hR3⟩:=aJq hR2 hg;obtain⟨v,hv,_,hsh⟩:=hR3;exact⟨v,⟨hv,hsh⟩,trivial⟩
  |_=>cases pk<;>exact any
def aAx {g:Gh}{w:q9}{H:s7}(hH:sE g w H) {vals:pX}: ∀{gs:List (Nat×Nat×PK)}{a a':t6},BU g w H vals a->BJ H gs (some a)=some a'->BU g w H vals a'
 |[],a,a',ha,h=>by
  simp only[BJ,aSm] at h;subst h;exact ha
 |(c,q,pk)::gs,a,a',ha,h=>by
  simp only[BJ] at h;obtain⟨v,hv⟩:=aJr hH ha (a.n-1-c) q pk;cases hp:xO H a pk (K8 q pk (I5 a.H (a.n-1-c))) with
  |none=>
   rw[hp] at h;simp only[MW] at h;cases gs<;>simp [BJ] at h
  |some b=>
   rw[hp] at h;simp only[MW] at h;have hb:=aAu hH ha hv hp;refine aAx hH (a:=⟨a.args,b.H,b.ws,b.n⟩) ⟨hb.n,hb.m,?_⟩ h;obtain⟨s,more,e1,e2⟩: ∃s more,b.args=s::a.args/\b.ws.reverse=a.ws.reverse++more:=by
    have hp':=hp;unfold xO at hp';split at hp'
    .simp only[SX,aSm] at hp';subst hp';exact⟨_,[],rfl,by simp⟩
    .simp only[SW] at hp';split at hp'
     .simp only[aSm] at hp';subst hp';exact⟨_,[],rfl,by simp⟩
     cases hp'
    .simp only[SY,aSm] at hp';subst hp';exact⟨_,[],rfl,by simp⟩
    .unfold C8 at hp';split at hp'
     .split at hp'
      .simp only[aSm] at hp';subst hp';exact⟨_,[_],rfl,aS3 ..⟩
      cases hp'
     cases hp'
    .unfold vT at hp';split at hp'
     .unfold EX at hp';split at hp'
      .split at hp'
       .obtain⟨ks,bs,_,_,h3,_,h5,_⟩:=VC hp';exact⟨_,_,h3,by rw[h5];simp only[aS3];exact aSB ..⟩
       cases hp'
      cases hp'
     cases hp'
    .unfold C9 at hp';split at hp'
     .split at hp'
      .simp only[aSm] at hp';subst hp';exact⟨_,[_],rfl,aS3 ..⟩
      cases hp'
     cases hp'
    .unfold xM at hp';split at hp'
     .split at hp'
      .simp only[aSm] at hp';subst hp';exact⟨_,[_],rfl,aS3 ..⟩
      cases hp'
     .split at hp'
      .simp only[aSm] at hp';subst hp';exact⟨_,[_],rfl,aS3 ..⟩
      cases hp'
     cases hp'
    .exact aAs hp'
    .unfold PD at hp';split at hp'
     .simp only[aSm] at hp';subst hp';exact⟨_,[],rfl,by simp⟩
     cases hp'
    cases hp'
   rw[e2];exact L6 (L5 g w _ _) ha.args
def aJs {b:Option qJ}{l:Option (List qJ)}{r:List qJ}(h:YT b l=some r): ∃b' l',b=some b'/\l=some l'/\r=b'::l':=by
 cases b<;>cases l<;>simp [YT] at h
 exact⟨_,_,rfl,rfl,h.symm⟩
def aAy {W:List rP}: ∀{L0 L:List qJ},I6 W L0=some L->L.length=L0.length/\∀(c:Nat) (b:qJ),L[c]? =some b->∃b0,L0[c]? =some b0/\K9 W b0=some b
 |[],L,h=>by
  simp only[I6,aSm] at h;subst h;exact⟨rfl,fun c b h=>by simp at h⟩
 |b0::L0,L,h=>by
  simp only[I6] at h;obtain⟨b',l',h1,h2,rfl⟩:=aJs h;obtain⟨k1,k2⟩:=aAy h2;refine⟨by simp [k1],fun c b hc=>?_⟩;cases c with
  |zero=>simp only[aSX,aSm] at hc;subst hc;exact⟨b0,rfl,h1⟩
  |succ c=>obtain⟨b1,q1,q2⟩:=k2 c b (by simpa using hc);exact⟨b1,by simpa using q1,q2⟩
def GM.ren {H:s7}{ws:List rP}{L0 L:List qJ}(h:GM H ws L0) (hc:I6 ws L0=some L):QH H ws L:=by
 obtain⟨k1,k2⟩:=aAy hc;refine⟨h.len.trans k1.symm,fun c wh b hw hb=>?_,h.nodup⟩;obtain⟨b0,q1,q2⟩:=k2 c b hb;have hok:=h.ok c wh b0 hw q1;cases b0 with
 |cells t y ts=>
  cases wh with
  |tok k=>exact hok.elim
  |box i u x toks o=>
   obtain⟨h1,h2,h3⟩:=hok;simp only[K9] at q2;split at q2
   .rename_i hp;obtain rfl:=aSr q2;exact⟨h1,⟨y,h2,.inl ⟨hp,rfl⟩⟩,h3⟩
   .cases hy:CB ws t y with
    |none=>rw[hy] at q2;cases q2
    |some z=>
     rw[hy] at q2;obtain rfl:=aSr q2;exact⟨h1,⟨y,h2,.inr hy⟩,h3⟩
 |_=>
  simp only[K9,aSm] at q2;subst q2;cases wh<;>exact hok
theorem zS: ∀(W:List rP) (c:Nat),yY W c=W[c]?
  |[],c=>by simp [yY]
  |_::_,0=>rfl
  |_::W,c+1=>by simpa[yY] using zS W c
theorem aAz: ∀L:List qJ,rG L=L.length
  |[]=>rfl
  |_::L=>by simp [rG,aAz L]
theorem aAA {α:Type}: ∀(l acc:List α),yX l acc=l.reverse++acc
  |[],_=>rfl
  |x::l,acc=>by simp [yX,aAA l]
theorem a02 {a:Option (Nat×qJ)}{b:Option (List (Nat×qJ))}{l:List (Nat×qJ)}(h:PG a b=some l): ∃q r,a=some q∧b=some r∧l=q::r:=by
  cases a<;>cases b<;>simp [PG] at h
  exact⟨_,_,rfl,rfl,h.symm⟩
def IN (base n:Nat) (W ws:List rP) (R:List qJ) (c0:Nat) (id:Nat) (b:qJ):Prop:=
  (∃(c:Nat) (i:Nat) (u:Ty) (x:u.den) (toks:pV) (o:Nat) (b0:qJ),ws[c]? =some (.box i u x toks o)∧id=i∧R[c]? =some b0∧xQ base n i o W u x toks b0=some (i,b))∨
  (∃(c k:Nat) (b0:qJ),ws[c]? =some (.tok k)∧id=k∧R[c]? =some b0∧wB k b0=some (k,b))∨
  (∃(c:Nat) (b0:qJ),R[c]? =some b0∧id=base+(c0+c)∧ws[c]? =none∧yA base n (c0+c) W b0=some (id,b))
theorem IN.succ {base n:Nat}{W:List rP}{wh:rP}{ws:List rP}{b0:qJ}{R:List qJ}{c0 id:Nat}{b:qJ}(h:IN base n W ws R (c0+1) id b):IN base n W (wh::ws) (b0::R) c0 id b:=by
  rcases h with⟨c,i,u,x,toks,o,b1,h1,h2,h3,h4⟩ |⟨c,k,b1,h1,h2,h3,h4⟩ |⟨c,b1,h1,h2,h3,h4⟩
  .exact .inl ⟨c+1,i,u,x,toks,o,b1,by simpa using h1,h2,by simpa using h3,h4⟩
  .exact .inr (.inl ⟨c+1,k,b1,by simpa using h1,h2,by simpa using h3,h4⟩)
  exact .inr (.inr ⟨c+1,b1,by simpa using h1,by rw[h2];omega,by simpa using h3,by rw[show c0+(c+1)=c0+1+c from by omega];exact h4⟩)
theorem IN.succ0 {base n:Nat}{W:List rP}{b0:qJ}{R:List qJ}{c0 id:Nat}{b:qJ}(h:IN base n W [] R (c0+1) id b):IN base n W [] (b0::R) c0 id b:=by
  rcases h with⟨c,i,u,x,toks,o,b1,h1,_⟩ |⟨c,k,b1,h1,_⟩ |⟨c,b1,h1,h2,h3,h4⟩
  .simp at h1
  .simp at h1
  exact .inr (.inr ⟨c+1,b1,by simpa using h1,by rw[h2];omega,by simp,by rw[show c0+(c+1)=c0+1+c from by omega];exact h4⟩)
theorem aAB {i:Nat}{t:Ty}{ts:pV}{o:Option t.den}{q:Nat×qJ}(h:a8V i t ts o=some q): ∃y,o=some y∧q=(i,.cells t y ts):=by
  cases o with
  |none=>cases h
  |some y=>exact⟨y,rfl,(aSr h).symm⟩
theorem aJt {base n c:Nat}{W:List rP}{b:qJ}{q:Nat×qJ}(h:yA base n c W b=some q):q.1=base+c:=by
  cases b<;>simp only[yA] at h
  · split at h
    .exact(aSr h)▸rfl
    obtain⟨y,_,rfl⟩:=aAB h;rfl
  .exact(aSr h)▸rfl
  · split at h
    .exact(aSr h)▸rfl
    cases h
  · split at h
    .exact(aSr h)▸rfl
    cases h
  .cases h
  exact(aSr h)▸rfl
def bY (base n:Nat) (W:List rP) (t:Ty) (x y:t.den):Prop:=(t.pure=true∧y=x)∨BK base n W t x=some y
theorem a03 {base n i o:Nat}{W:List rP}{u t:Ty}{x:u.den}{y:t.den}{toks ts:pV}{q:Nat×qJ}(h:xQ base n i o W u x toks (.cells t y ts)=some q):
    ∃y2 z,bY base n W t y y2∧sL t y2 u x o=some z∧q=(i,.cells u z (r6 (DO base n W o ts) (tH toks o t.cells))):=by
  simp only[xQ] at h;split at h
  · rename_i hp
    cases hs:sL t y u x o with
    |none=>rw[hs] at h;simp [T6] at h
    |some z=>rw[hs] at h;exact⟨y,z,.inl ⟨hp,rfl⟩,hs,(aSr h).symm⟩
  cases hy:BK base n W t y with
  |none=>rw[hy] at h;cases h
  | some y2=>
    rw[hy] at h;simp only[a8W] at h;cases hs:sL t y2 u x o with
    |none=>rw[hs] at h;simp [T6] at h
    |some z=>rw[hs] at h;exact⟨y2,z,.inr hy,hs,(aSr h).symm⟩
theorem aJu {k:Nat}{b:qJ}{q:Nat×qJ}(h:wB k b=some q):q.1=k:=by
  cases b<;>simp only[wB] at h
  .cases h
  .exact(aSr h)▸rfl
  · split at h
    .exact(aSr h)▸rfl
    cases h
  · split at h
    .exact(aSr h)▸rfl
    cases h
  .cases h
  exact(aSr h)▸rfl
theorem aJv {base n i o:Nat}{W:List rP}{u:Ty}{x:u.den}{toks:pV}{b:qJ}{q:Nat×qJ}(h:xQ base n i o W u x toks b=some q):q.1=i:=by
  cases b with
  |cells t y ts=>obtain⟨y2,z,_,_,rfl⟩:=a03 h;rfl
  |grow=>simp [xQ] at h
  |row=>simp [xQ] at h
  |map=>simp [xQ] at h
  |iter=>simp [xQ] at h
  |dead=>simp only[xQ,aSm] at h;exact h▸rfl
theorem NI {base n:Nat}{W:List rP}: ∀{ws:List rP}{R:List qJ}{c0:Nat}{upd:List (Nat×qJ)},BL base n W c0 ws R=some upd→
    ws.length≤R.length∧(∀id b,qO upd id=some b→IN base n W ws R c0 id b)∧(∀id,id∈qQ upd→∃b,qO upd id=some b)∧
    (∀(c:Nat) wh,ws[c]? =some wh→wh.id∈qQ upd)∧(∀(c:Nat) b,R[c]? =some b→ws[c]? =none→base+(c0+c)∈qQ upd)
  | [],[],_,upd,h=>by
    simp only[BL,aSm] at h;subst h;exact⟨aSJ _,fun _ _ h=>by simp [qO] at h,fun _ h=>by simp [qQ] at h,fun _ _ h=>by simp at h,fun _ _ h=>by simp at h⟩
  | [],b::R,c0,upd,h=>by
    simp only[BL] at h;obtain⟨q,r,h1,h2,rfl⟩:=a02 h;obtain⟨k1,k2,k3,k4,k5⟩:=NI h2;have hq:=aJt h1;obtain⟨q1,q2⟩:=q;simp only at hq;subst hq;refine⟨by simp,fun id b' hg=>?_,fun id hi=>?_,fun c wh hw=>by simp at hw,fun c b' hb hn=>?_⟩
    · simp only[qO] at hg
      split at hg
      · rename_i e
        obtain rfl:=aSr hg;subst e;exact .inr (.inr ⟨0,b,rfl,rfl,by simp,h1⟩)
      exact(k2 id b' hg).succ0
    · simp only[qO]
      by_cases e:base+c0=id
      .rw[aSn e];exact⟨_,rfl⟩
      rw[aSo e]
      simp only[qQ,aSC] at hi;exact k3 id (hi.resolve_left (Ne.symm e))
    · cases c with
      |zero=>simp [qQ]
      | succ c=>
        have:=k5 c b' (by simpa using hb) pS;simp only[qQ,aSC];right;rw[show base+(c0+(c+1))=base+(c0+1+c) from by omega];exact this
  | .box i u x toks o::ws,[],c0,upd,h=>by simp [BL] at h
  | .tok k::ws,[],c0,upd,h=>by simp [BL] at h
  | .box i u x toks o::ws,b::R,c0,upd,h=>by
    simp only[BL] at h;obtain⟨q,r,h1,h2,rfl⟩:=a02 h;obtain⟨k1,k2,k3,k4,k5⟩:=NI h2;have hq:=aJv h1;obtain⟨q1,q2⟩:=q;simp only at hq;subst hq;refine⟨by simp;omega,fun id b' hg=>?_,fun id hi=>?_,fun c wh hw=>?_,fun c b' hb hn=>?_⟩
    · simp only[qO] at hg
      split at hg
      · rename_i e
        obtain rfl:=aSr hg;subst e;exact .inl ⟨0,q1,u,x,toks,o,b,rfl,rfl,rfl,h1⟩
      exact(k2 id b' hg).succ
    · simp only[qO]
      by_cases e:q1=id
      .rw[aSn e];exact⟨_,rfl⟩
      rw[aSo e]
      simp only[qQ,aSC] at hi;exact k3 id (hi.resolve_left (Ne.symm e))
    · cases c with
      |zero=>simp only[aSX,aSm] at hw;subst hw;simp [qQ,rP.id]
      |succ c=>simp only[qQ,aSC];exact .inr (k4 c wh (by simpa using hw))
    · cases c with
      |zero=>simp at hn
      | succ c=>
        have:=k5 c b' (by simpa using hb) (by simpa using hn);simp only[qQ,aSC];right;rw[show base+(c0+(c+1))=base+(c0+1+c) from by omega];exact this
  | .tok k::ws,b::R,c0,upd,h=>by
    simp only[BL] at h;obtain⟨q,r,h1,h2,rfl⟩:=a02 h;obtain⟨k1,k2,k3,k4,k5⟩:=NI h2;have hq:=aJu h1;obtain⟨q1,q2⟩:=q;simp only at hq;subst hq;refine⟨by simp;omega,fun id b' hg=>?_,fun id hi=>?_,fun c wh hw=>?_,fun c b' hb hn=>?_⟩
    · simp only[qO] at hg
      split at hg
      · rename_i e
        obtain rfl:=aSr hg;subst e;exact .inr (.inl ⟨0,q1,b,rfl,rfl,rfl,h1⟩)
      exact(k2 id b' hg).succ
    · simp only[qO]
      by_cases e:q1=id
      .rw[aSn e];exact⟨_,rfl⟩
      rw[aSo e]
      simp only[qQ,aSC] at hi;exact k3 id (hi.resolve_left (Ne.symm e))
    · cases c with
      |zero=>simp only[aSX,aSm] at hw;subst hw;simp [qQ,rP.id]
      |succ c=>simp only[qQ,aSC];exact .inr (k4 c wh (by simpa using hw))
    cases c with
    |zero=>simp at hn
    | succ c=>
      have:=k5 c b' (by simpa using hb) (by simpa using hn);simp only[qQ,aSC];right;rw[show base+(c0+(c+1))=base+(c0+1+c) from by omega];exact this
def tN (g g':Gh) (base:Nat) (W:List rP) (ids:q8):Gh:=
  ⟨g'.S,fun i=>if base≤i∧i∈ids then g'.J (i-base) else match vU i W 0 with|some c=>g'.J c|none=>g.J i,
   fun i=>if base≤i∧i∈ids then g'.cur (i-base) else match vU i W 0 with|some c=>g'.cur c|none=>g.cur i⟩
theorem QJ {n c:Nat}{wh:Option rP}:MX n c wh=true↔c<n∧wh=none:=by
  cases wh with
  |none=>simp [MX]
  |some wh=>simp [MX]
theorem aJw {base n c i:Nat}{wh:Option rP}(h:zL base n c wh=some i):wh=some (.tok i)∨(wh=none∧c<n∧i=base+c):=by
  cases wh with
  | none=>
    simp only[zL] at h;split at h
    .rename_i hc;exact .inr ⟨rfl,hc,(aSr h).symm⟩
    .cases h
  | some wh=>
    cases wh with
    |box=>cases h
    |tok k=>simp only[zL,aSm] at h;subst h;exact .inl rfl
theorem VD {i:Nat}: ∀{ws:List rP}{c0:Nat},(∀c:Nat,ws[c]? ≠some (.tok i))→vU i ws c0=none
  |[],_,_=>rfl
  | .tok j::r,c0,h=>by
    simp only[vU];split
    .rename_i e;subst e;exact absurd rfl (h 0)
    .exact VD (fun c=>by have:=h (c+1);simpa using this)
  | .box _ _ _ _ _::r,c0,h=>by
    simp only[vU];exact VD (fun c=>by have:=h (c+1);simpa using this)
theorem aJx {i c:Nat}{ws:List rP}(hnd:(sF ws).Nodup) (h:ws[c]? =some (.tok i)):vU i ws 0=some c:=by
  cases hc:vU i ws 0 with
  | none=>
    exfalso
    have: ∀{ws:List rP}{c0 c:Nat},ws[c]? =some (.tok i)→vU i ws c0≠none:=by
      intro ws
      induction ws with
      |nil=>intro c0 c h;simp at h
      | cons wh r ih=>
        intro c0 c h;cases c with
        | zero=>
          simp only[aSX,aSm] at h;subst h;simp [vU]
        | succ c=>
          simp only[aS6] at h;cases wh with
          |box=>exact ih h
          | tok j=>
            simp only[vU];split
            .simp
            exact ih h
    exact this h hc
  | some d=>
    obtain⟨d',e1,h2⟩:=IL hc;rw[aSU] at e1;subst e1;rw[VB hnd h h2 rfl]
theorem Fr.mono {A B:Nat→Nat→Prop}{w w':q9}{S S':Nat→Nat→Prop}(h:Fr A w w' S S') (hAB: ∀b o,A b o→B b o):Fr B w w' S S':=
  ⟨h.os,h.tape,h.output,h.size,fun b hb hn=>h.blk b hb (fun o ho=>hn o (hAB b o ho)),fun b o hb hn=>h.cell b o hb (fun ho=>hn (hAB b o ho)),fun b o hs=>(h.new b o hs).imp id (Or.imp id (hAB b o)),fun b s hs=>(h.shape b s hs).imp id fun h o=>hAB b o (h o)⟩
theorem VE {base n:Nat}{W:List rP}{o:Nat}: ∀{ts:pV}{q k:Nat},(q,k)∈DO base n W o ts→∃q' c,(q',c)∈ts∧zL base n c (yY W c)=some k∧q=o+q'
  |[],_,_,h=>by simp [DO] at h
  | (q',c)::r,q,k,h=>by
    simp only[DO] at h;cases hn:zL base n c (yY W c) with
    | none=>
      rw[hn] at h;obtain⟨a,b,h1,h2⟩:=VE h;exact⟨a,b,aSy _ h1,h2⟩
    | some k'=>
      rw[hn] at h;rcases aSC.1 h with h|h
      · simp only[aSQ] at h
        obtain⟨rfl,rfl⟩:=h;exact⟨q',c,by simp,hn,rfl⟩
      obtain⟨a,b,h1,h2⟩:=VE h
      exact⟨a,b,aSy _ h1,h2⟩
theorem wQ {α:Type}{x:α}: ∀{l m:List α},x∈r6 l m↔x∈l∨x∈m
  |[],m=>by simp [r6]
  |y::l,m=>by simp [r6,wQ (l:=l),or_assoc]
theorem a04: ∀{toks:pV}{off n q k:Nat},(q,k)∈tH toks off n→(q,k)∈toks∧¬(off≤q∧q<off+n)
  |[],_,_,_,_,h=>by simp [tH] at h
  | (q',k')::r,off,n,q,k,h=>by
    simp only[tH] at h;split at h
    · obtain⟨h1,h2⟩:=a04 h
      exact⟨aSy _ h1,h2⟩
    rename_i hn
    rcases aSC.1 h with h|h
    · cases h
      exact⟨by simp,hn⟩
    obtain⟨h1,h2⟩:=a04 h
    exact⟨aSy _ h1,h2⟩
section
variable {g g':Gh}{w w':q9}{H:s7}{W:List rP}{L:List qJ}{r:qY}{v:qB}{base:Nat}{upd:List (Nat×qJ)}
variable (hH:sE g w H) (hm:QH H W L) (hr:F8 (uR g W) w L r g' w' v) (hb:BL base r.H.length W 0 W r.H=some upd) (hf: ∀i,i∈qQ upd→base≤i→g.J i=none∧∀n,g.cur i n=none)
include hH hm hr hb hf
theorem DY {c:Nat}{wh:rP}(hw:W[c]? =some wh):wh.id∈qQ upd∧wh.id<base∧∃b,L[c]? =some b∧V9 H W wh b:=by
  have hin:=(NI hb).2.2.2.1 c wh hw;have hlt:c<L.length:=hm.len▸(aSD.1 hw).1;have hok:=hm.ok c wh _ hw (aSv hlt);refine⟨hin,Nat.lt_of_not_le fun hle=>?_,_,aSv hlt,hok⟩;have hfr:=hf _ hin hle;cases wh with
  | box i u x toks o=>
    cases hL:L[c] with
    | cells t y ts=>
      rw[hL] at hok;obtain⟨p,cs,hp,_⟩:=hH.blk i _ hok.1;rw[show (rP.box i u x toks o).id=i from rfl] at hfr;rw[hfr.1] at hp;cases hp
    |_=>rw[hL] at hok;exact hok.elim
  | tok k=>
    cases hL:L[c] with
    | grow e cc m=>
      rw[hL] at hok;obtain⟨v,xs,hv,_⟩:=hH.blk k _ hok;rw[show (rP.tok k).id=k from rfl] at hfr;rw[hfr.2] at hv;cases hv
    | map s t l=>
      rw[hL] at hok;obtain⟨p,es,cl,hp,_⟩:=hH.blk k _ hok.1;rw[show (rP.tok k).id=k from rfl] at hfr;rw[hfr.1] at hp;cases hp
    | row e t l m=>
      rw[hL] at hok;obtain⟨_,v,xs,hv,_⟩:=hH.blk k _ hok.1;rw[show (rP.tok k).id=k from rfl] at hfr;rw[hfr.2] at hv;cases hv
    |_=>rw[hL] at hok;exact hok.elim
theorem aJy {c:Nat}(hc:c<r.H.length) (hn:W[c]? =none):base+c∈qQ upd:=by
  have:=(NI hb).2.2.2.2 c _ (aSv hc) hn;simpa using this
theorem L7 {c:Nat}(hc:c<r.H.length) (hn:W[c]? =none):(tN g g' base W (qQ upd)).J (base+c)=g'.J c∧(tN g g' base W (qQ upd)).cur (base+c)=g'.cur c:=by
  have hin:=aJy hH hm hr hb hf hc hn;refine⟨?_,?_⟩
  · show (if base≤base+c∧base+c∈qQ upd then _ else _)=_
    rw[aSn ⟨pQ,hin⟩,aTb]
  show (if base≤base+c∧base+c∈qQ upd then _ else _)=_
  rw[aSn ⟨pQ,hin⟩,aTb]
theorem aAC {i:Nat}(hi: ¬(base≤i∧i∈qQ upd)) (hn:vU i W 0=none):(tN g g' base W (qQ upd)).J i=g.J i∧(tN g g' base W (qQ upd)).cur i=g.cur i:=by
  refine⟨?_,?_⟩
  · show (if base≤i∧i∈qQ upd then _ else _)=_
    rw[aSo hi,hn]
  show (if base≤i∧i∈qQ upd then _ else _)=_
  rw[aSo hi,hn]
theorem aAD {c k:Nat}(hw:W[c]? =some (.tok k)):(tN g g' base W (qQ upd)).J k=g'.J c∧(tN g g' base W (qQ upd)).cur k=g'.cur c:=by
  have hlt:=(DY hH hm hr hb hf hw).2.1;simp only[rP.id] at hlt;have hc:=aJx hm.nodup hw;refine⟨?_,?_⟩
  · show (if base≤k∧k∈qQ upd then _ else _)=_
    rw[aSo pQ,hc]
  show (if base≤k∧k∈qQ upd then _ else _)=_
  rw[aSo pQ,hc]
theorem NJ {c i:Nat}{u:Ty}{x:u.den}{toks:pV}{o:Nat}(hw:W[c]? =some (.box i u x toks o)):(tN g g' base W (qQ upd)).J i=g.J i∧(tN g g' base W (qQ upd)).cur i=g.cur i:=by
  have hlt:=(DY hH hm hr hb hf hw).2.1;simp only[rP.id] at hlt;refine aAC hH hm hr hb hf pQ (VD fun d hd=>?_);have:=VB hm.nodup hw hd rfl;subst this;rw[hw] at hd;cases hd
theorem GO {c i:Nat}(hi:zL base r.H.length c W[c]? =some i):(tN g g' base W (qQ upd)).J i=g'.J c∧(tN g g' base W (qQ upd)).cur i=g'.cur c:=by
  rcases aJw hi with h|⟨h1,h2,rfl⟩
  .exact aAD hH hm hr hb hf h
  exact L7 hH hm hr hb hf h2 h1
theorem aAE:Le g w (tN g g' base W (qQ upd)) w':=by
  have len: ∀{i c:Nat},vU i W 0=some c→W[c]? =some (.tok i)∧c<L.length:=by
    intro i c h;obtain⟨d,e1,h2⟩:=IL h;rw[aSU] at e1;subst e1;exact⟨h2,hm.len▸(aSD.1 h2).1⟩
  refine⟨fun b o h=>(hr.shut b o h).1,fun b o h=>(hr.shut b o h).2,fun i p h=>?_,fun i n u h=>?_⟩
  · show (if base≤i∧i∈qQ upd then _ else _)=_
    rw[aSo (fun⟨h1,h2⟩=>by rw[(hf i h2 h1).1] at h;cases h)];cases hc:vU i W 0 with
    |none=>exact h
    | some c=>
      obtain⟨h1,h2⟩:=len hc;refine hr.Jt c p h2 ?_;show uQ g W[c]? =_;rw[h1];exact h
  show (if base≤i∧i∈qQ upd then g'.cur (i-base) else match vU i W 0 with|some c=>g'.cur c|none=>g.cur i) n=_
  rw[aSo (fun⟨h1,h2⟩=>by rw[(hf i h2 h1).2] at h;cases h)];cases hc:vU i W 0 with
  |none=>exact h
  | some c=>
    obtain⟨h1,h2⟩:=len hc;refine hr.cur c n u h2 ?_;show zR g W[c]? n=_;rw[h1];exact h
theorem aJz {t:Ty}{x y:t.den}{cs:pX}(hx:Rd g' w' t x cs) (h:BK base r.H.length W t x=some y):Rd (tN g g' base W (qQ upd)) w' t y cs:=by
  refine VA (g:=g') (g':=tN g g' base W (qQ upd)) rfl (BK base r.H.length W) (fun a b x=>rfl) (fun t x=>rfl) (fun _=>rfl) (fun _ _=>rfl) (fun _=>rfl) (fun _=>rfl) (fun _=>rfl) (fun _ _ x y cs h hx=>?_) (fun x y cs h hx=>?_) (fun x y cs h hx=>?_) (fun x y cs h hx=>?_) (fun x y cs h hx=>?_) (fun _=>rfl) hx h
  rotate_left 2
  · obtain⟨c,i,⟨k3,n3⟩,⟨k4,n4⟩⟩:=x
    simp only[BK,a8U,zS] at h;obtain⟨i',k3',k4',e1,e2,e3,rfl⟩:=aAj h;refine a0Z (g:=g') (g':=tN g g' base W (qQ upd)) (fun _ _ h=>⟨h,rfl⟩) (fun p hp=>?_) (fun v hv=>?_) (fun v hv=>?_) hx
    · unfold PF at e1
      split at e1
      · rename_i i0 uu x toks o' hwh
        simp only[aSm,aSQ] at e1;obtain⟨rfl,h0⟩:=e1;obtain⟨_,hlt,b,hL,hok⟩:=DY hH hm hr hb hf hwh;cases b with
        | cells t y ts=>
          have hJ:=hr.J i t y ts hL;rw[hp] at hJ;have hJ':uQ g W[i]? =some p:=hJ.symm;rw[hwh] at hJ';obtain⟨p0,hp0,rfl⟩:=aSE.1 hJ';exact⟨p0,by rw[(NJ hH hm hr hb hf hwh).1];exact hp0,rfl,by simp;omega⟩
        |_=>exact hok.elim
      split at e1
      · rename_i hn
        simp only[aSm,aSQ] at e1;obtain⟨rfl,-⟩:=e1;obtain⟨h1,h2⟩:=QJ.1 hn;exact⟨p,by rw[(L7 hH hm hr hb hf h1 h2).1];exact hp,rfl,rfl⟩
      cases e1
    .rw[(GO hH hm hr hb hf e2).2];exact hv
    rw[(GO hH hm hr hb hf e3).2];exact hv
  rotate_left 2
  · cases x with
    |none=>cases h;exact hx
    | some q=>
      obtain⟨c,n⟩:=q;simp only[BK,a8T,zS] at h;obtain⟨i,hi,rfl⟩:=aSE.1 h;obtain⟨v,hv,hs⟩:=hx;exact⟨v,by rw[(GO hH hm hr hb hf hi).2];exact hv,hs⟩
  · cases x with
    |none=>cases h;exact hx
    | some q=>
      obtain⟨c,o⟩:=q;simp only[BK,KB] at h;obtain⟨p,hp,hv⟩:=hx;unfold KB.back2 at h;split at h
      · rename_i i uu x toks o' hwh
        cases h;rw[zS] at hwh;obtain⟨_,hlt,b,hL,hok⟩:=DY hH hm hr hb hf hwh;cases b with
        | cells t y ts=>
          have hJ:=hr.J c t y ts hL;rw[hp] at hJ;have hJ':uQ g W[c]? =some p:=hJ.symm;rw[hwh] at hJ';obtain⟨p0,hp0,rfl⟩:=aSE.1 hJ';exact⟨p0,by rw[(NJ hH hm hr hb hf hwh).1];exact hp0,by have:=hv.1;rwa [aS5] at this,hv.2.imp id fun hv=>by rw[hv];simp [aS5]⟩
        |_=>exact hok.elim
      split at h
      · rename_i hn
        cases h;obtain⟨h1,h2⟩:=QJ.1 hn;rw[zS] at h2;exact⟨p,by rw[(L7 hH hm hr hb hf h1 h2).1];exact hp,hv⟩
      cases h
  · cases x with
    |none=>cases h;exact hx
    | some q=>
      obtain⟨c,o⟩:=q;simp only[BK,KB] at h;obtain⟨p,hp,hv⟩:=hx;unfold KB.back2 at h;split at h
      · rename_i i uu x toks o' hwh
        cases h;rw[zS] at hwh;obtain⟨_,hlt,b,hL,hok⟩:=DY hH hm hr hb hf hwh;cases b with
        | cells t y ts=>
          have hJ:=hr.J c t y ts hL;rw[hp] at hJ;have hJ':uQ g W[c]? =some p:=hJ.symm;rw[hwh] at hJ';obtain⟨p0,hp0,rfl⟩:=aSE.1 hJ';exact⟨p0,by rw[(NJ hH hm hr hb hf hwh).1];exact hp0,by rw[hv];simp [aS5]⟩
        |_=>exact hok.elim
      split at h
      · rename_i hn
        cases h;obtain⟨h1,h2⟩:=QJ.1 hn;rw[zS] at h2;exact⟨p,by rw[(L7 hH hm hr hb hf h1 h2).1];exact hp,hv⟩
      cases h
  cases x with
  |none=>cases h;exact hx
  | some c=>
    simp only[BK,a8S,zS] at h;obtain⟨i,hi,rfl⟩:=aSE.1 h;obtain⟨p,hp,hv⟩:=hx;exact⟨p,by rw[(GO hH hm hr hb hf hi).1];exact hp,hv⟩
theorem aAF {t:Ty}{x y:t.den}{cs:pX}(hx:Rd g' w' t x cs) (h:bY base r.H.length W t x y):Rd (tN g g' base W (qQ upd)) w' t y cs:=by
  rcases h with⟨hp,rfl⟩ |h
  .exact vW (g:=g') (g':=tN g g' base W (qQ upd)) rfl hp hx
  exact aJz hH hm hr hb hf hx h
omit hH hm hr hb hf in
theorem aAG {n:Nat}{t u:Ty}{x y:t.den}{o:Nat}{l:List u.den}(h:bY base n W t x y) (hg:r9 (.list u) t x o=some l):r9 (.list u) t y o=some l:=by
  rcases h with⟨_,rfl⟩ |h
  .exact hg
  exact a0Y (BK base n W) (fun _ _ _=>rfl) (fun _ _=>rfl) h hg
theorem aAH: ∀(cs:pV) {l:pV}{vs:pX},yD g' cs vs→MY base r.H.length W cs=some l→yD (tN g g' base W (qQ upd)) l vs
  |[],l,vs,h,e=>by cases e;exact h
  | (c,o)::cs,l,vs,⟨p,vs',hp,hv,hr'⟩,e=>by
    unfold MY at e;cases h1:PF base r.H.length c o (yY W c) with
    |none=>rw[h1] at e;cases e
    | some q=>
      cases h2:MY base r.H.length W cs with
      |none=>rw[h1,h2] at e;cases e
      | some l'=>
        rw[h1,h2] at e;cases e;refine(?_ : ∃p vs',_);have ih:=aAH cs hr' h2;unfold PF at h1;split at h1
        · rename_i i uu x toks o' hwh
          cases h1;rw[zS] at hwh;obtain⟨_,hlt,b,hL,hok⟩:=DY hH hm hr hb hf hwh;cases b with
          | cells t y ts=>
            have hJ:=hr.J c t y ts hL;rw[hp] at hJ;have hJ':uQ g W[c]? =some p:=hJ.symm;rw[hwh] at hJ';obtain⟨p0,hp0,rfl⟩:=aSE.1 hJ';exact⟨p0,vs',by rw[(NJ hH hm hr hb hf hwh).1];exact hp0,by rw[hv];simp [aS5],ih⟩
          |_=>exact hok.elim
        split at h1
        · rename_i hn
          cases h1;obtain⟨h3,h4⟩:=QJ.1 hn;rw[zS] at h4;exact⟨p,vs',by rw[(L7 hH hm hr hb hf h3 h4).1];exact hp,hv,ih⟩
        cases h1
theorem aJA {s:qM}{u:qB}(h:rO g' w' s u):rO (tN g g' base W (qQ upd)) w' (T5 base r.H.length W s) u:=by
  obtain⟨d,k⟩:=s
  have tokk: ∀{t:Ty}(hp:t.pure=true) {x:t.den}{k:pZ},(∀c,k=some c→∃u,t= .list u)→rO g' w' (.val t x,k) u→rO (tN g g' base W (qQ upd)) w' (.val t x,KA base r.H.length W k) u:=by
    intro t hp x k hl h;cases k with
    |none=>exact V5 (g:=g') (g':=tN g g' base W (qQ upd)) (k:=none) (k':=none) rfl hp (fun c e=>by cases e) h (fun c e=>by cases e) (fun _=>rfl)
    | some c=>
      simp only[KA,zS];cases hn:zL base r.H.length c W[c]? with
      | some i=>
        refine V5 (g:=g') (g':=tN g g' base W (qQ upd)) (k:=some c) (k':=some i) rfl hp hl h (fun c' e=>?_) (fun e=>by cases e);cases e;refine⟨_,rfl,fun n u hu=>?_⟩;rw[(GO hH hm hr hb hf hn).2];exact hu
      | none=>
        exact V5 (g:=g') (g':=tN g g' base W (qQ upd)) (k:=none) (k':=none) rfl hp (fun c e=>by cases e) ⟨h.1,trivial⟩ (fun c e=>by cases e) (fun _=>rfl)
  unfold T5;split
  · rename_i c m k' heq
    simp only[aSQ] at heq;obtain⟨rfl,rfl⟩:=heq;simp only[KA,zS];cases hn:zL base r.H.length c W[c]? with
    | some i=>
      obtain⟨h3,h4⟩:=h.1;exact⟨⟨by rw[(GO hH hm hr hb hf hn).2];exact h3,h4⟩,trivial⟩
    |none=>exact⟨trivial,trivial⟩
  · rename_i c o k' heq
    simp only[aSQ] at heq;obtain⟨rfl,rfl⟩:=heq;obtain⟨p,hp,hv⟩:=xC h.1;unfold a8R;split
    · rename_i i uu x toks o' hwh
      rw[zS] at hwh;obtain⟨_,hlt,b,hL,hok⟩:=DY hH hm hr hb hf hwh;cases b with
      | cells t y ts=>
        have hJ:=hr.J c t y ts hL;rw[hp] at hJ;have hJ':uQ g W[c]? =some p:=hJ.symm;rw[hwh] at hJ';obtain⟨p0,hp0,rfl⟩:=aSE.1 hJ';refine⟨.inr ⟨rfl,p0,by rw[(NJ hH hm hr hb hf hwh).1];exact hp0,?_⟩,trivial⟩;rw[hv];simp [aS5]
      |_=>exact hok.elim
    split
    · rename_i hn
      obtain⟨h1,h2⟩:=QJ.1 hn;rw[zS] at h2;exact⟨.inr ⟨rfl,p,by rw[(L7 hH hm hr hb hf h1 h2).1];exact hp,by rw[hv]⟩,trivial⟩
    exact⟨trivial,trivial⟩
  · rename_i k' heq
    simp only[aSQ] at heq;obtain⟨rfl,rfl⟩:=heq;rcases h.1 with⟨h1,_⟩ |⟨h1,h2⟩
    .cases h1
    exact⟨.inr ⟨h1,h2⟩,trivial⟩
  · rename_i c k' heq
    simp only[aSQ] at heq;obtain⟨rfl,rfl⟩:=heq;simp only[KA,zS];cases hn:zL base r.H.length c W[c]? with
    | some i=>
      obtain⟨p,hp,hv⟩:KV g' (some c) [u]:=xB rfl h.1;exact⟨.inr ⟨rfl,p,by rw[(GO hH hm hr hb hf hn).1];exact hp,hv⟩,trivial⟩
    |none=>exact⟨trivial,trivial⟩
  · rename_i k' heq
    simp only[aSQ] at heq;obtain⟨rfl,rfl⟩:=heq;rcases h.1 with⟨h1,_⟩ |⟨h1,h2⟩
    .cases h1
    exact⟨.inr ⟨h1,h2⟩,trivial⟩
  · rename_i f cs k' heq
    simp only[aSQ] at heq;obtain⟨rfl,rfl⟩:=heq;cases hc:MY base r.H.length W cs with
    |none=>exact⟨trivial,trivial⟩
    | some l=>
      rcases h.1 with⟨h1,_⟩ |⟨_,vs,h2,h3⟩
      .cases h1
      exact⟨.inr ⟨rfl,vs,aAH hH hm hr hb hf cs h2 hc,h3⟩,trivial⟩
  · rename_i t x k' hno hno0 hno2 hno3 hno4 heq
    simp only[aSQ] at heq;obtain⟨rfl,rfl⟩:=heq;split
    · rename_i hp
      exact tokk hp aJe (aAh h)
    exact⟨trivial,trivial⟩
  exact⟨trivial,trivial⟩
end
theorem aAI {g:Gh}{w:q9}{H:s7}{W:List rP}{L:List qJ}(hH:sE g w H) (hm:QH H W L) {bb oo:Nat}(h:yE (uR g W) (r8 0 L) bb oo):
  ∃(c:Nat) (wh:rP) (b blk:qJ),W[c]? =some wh/\L[c]? =some b/\s9 (uR g W) c b bb oo/\qO H wh.id=some blk/\s9 g wh.id blk bb oo:=by
 obtain⟨c,b,hc,ho⟩:=h;rw[xD] at hc;have hlt:c<W.length:=hm.len▸(aSD.1 hc).1;have hwh:W[c]? =some W[c]:=aSv hlt;have hw:=hm.ok c _ b hwh hc;refine⟨c,W[c],b,?_⟩;generalize W[c]=wh at hwh hw;cases wh with
 |box i u x toks off=>
  cases b with
  |cells t y ts=>
   obtain⟨h1,⟨y0,h2,h3⟩,h4⟩:=hw;obtain⟨p,hp,e1,e2,e3⟩:=ho;have hp':uQ g W[c]? =some p:=hp;rw[hwh] at hp';obtain⟨p0,hp0,rfl⟩:=aSE.1 hp';obtain⟨p1,cs,hp1,hR,_⟩:=hH.blk i _ h1;obtain⟨c1,c2,c3,hcs,hl,hR2⟩:=BR hR h2;have l1:=sV hR;have l2:=sV hR2;rw[hcs] at l1;simp only[aSp] at l1;exact⟨_,hwh,hc,⟨_,hp,e1,e2,e3⟩,h1,p0,hp0,e1,by simp at e2;omega,by simp at e3;omega⟩
  |_=>exact hw.elim
 |tok k=>
  cases b with
  |grow e cc m=>
   obtain⟨v,hv,hb⟩:=ho;have hv':zR g W[c]? m=some v:=hv;rw[hwh] at hv';exact⟨_,hwh,hc,⟨v,hv,hb⟩,hw,v,hv',hb⟩
  |map s t l=>
   obtain⟨p,hp,hb⟩:=ho;have hp':uQ g W[c]? =some p:=hp;rw[hwh] at hp';exact⟨_,hwh,hc,⟨p,hp,hb⟩,hw.1,p,hp',hb⟩
  |row e t l m=>
   obtain⟨v,hv,hb⟩:=ho;have hv':zR g W[c]? m=some v:=hv;rw[hwh] at hv';exact⟨_,hwh,hc,⟨v,hv,hb⟩,hw.1,v,hv',hb⟩
  |_=>exact hw.elim
section
variable {g g':Gh}{w w':q9}{H:s7}{W:List rP}{L:List qJ}{r:qY}{v:qB}{base:Nat}{upd:List (Nat×qJ)}
variable (hH:sE g w H) (hm:QH H W L) (hr:F8 (uR g W) w L r g' w' v) (hb:BL base r.H.length W 0 W r.H=some upd) (hf: ∀i,i∈qQ upd->base<=i->g.J i=none/\∀n,g.cur i n=none)
include hH hm hr hb hf
theorem a05 {b o:Nat}(h:yE (uR g W) (r8 0 L) b o):sU g H (qQ upd) b o:=by
 obtain⟨c,wh,b0,blk,h1,h2,h3,h4,h5⟩:=aAI hH hm h;exact⟨wh.id,blk,(DY hH hm hr hb hf h1).1,h4,h5⟩
theorem aJB:Fr (sU g H (qQ upd)) w w' g.S (tN g g' base W (qQ upd)).S:=hr.fr.mono fun _ _ h=>a05 hH hm hr hb hf h
theorem VF {id:Nat}{b:qJ}(hi:id∈qQ upd) (hg:qO (r6 upd H) id=some b):IN base r.H.length W W r.H 0 id b:=by
 obtain⟨_,k2,k3,_⟩:=NI hb;obtain⟨b',hb'⟩:=k3 id hi;have:qO (r6 upd H) id=some b':=by
  have: ∀{u:List (Nat×qJ)},qO u id=some b'->qO (r6 u H) id=some b':=by
   intro u
   induction u with
   |nil=>intro h;cases h
   |cons q u ih=>
    intro h;simp only[r6,qO] at h|-;split
    .rename_i e;rw[aSn e] at h;exact h
    rename_i e;rw[aSo e] at h;exact ih h
  exact this hb'
 rw[this] at hg;obtain rfl:=aSr hg;exact k2 id b' hb'
theorem a06 {c i o:Nat}{u:Ty}{x:u.den}{toks:pV}{b0 b:qJ}(hW:W[c]? =some (.box i u x toks o)) (hR:r.H[c]? =some b0) (hbb:xQ base r.H.length i o W u x toks b0=some (i,b)):
  A2 (tN g g' base W (qQ upd)) w' i b/\(∀bb oo,s9 (tN g g' base W (qQ upd)) i b bb oo->s9 g i (.cells u x toks) bb oo/\qO H i=some (.cells u x toks))/\
   ∀bb oo,s9 (tN g g' base W (qQ upd)) i b bb oo->s9 g' c b0 bb oo\/(bb<w.heap.size/\¬yE (uR g W) (r8 0 L) bb oo):=by
 obtain⟨hin,hlt,bL,hL,hok⟩:=DY hH hm hr hb hf hW;have hJi:=(NJ hH hm hr hb hf hW).1;have hle:=aAE hH hm hr hb hf;cases bL with
 |grow=>exact hok.elim
 |row=>exact hok.elim
 |map=>exact hok.elim
 |iter=>exact hok.elim
 |dead=>exact hok.elim
 |cells tL yL tsL=>
  obtain⟨h1,h2,h4⟩:=hok;obtain⟨p,cs,hp,hRd,hra,hth,hns,htk⟩:=hH.blk i _ h1;cases b0 with
  |grow=>simp [xQ] at hbb
  |row=>simp [xQ] at hbb
  |map=>simp [xQ] at hbb
  |iter=>simp [xQ] at hbb
  |dead=>
   simp only[xQ,aSm,aSQ,true_and] at hbb;subst hbb;exact⟨trivial,fun _ _ h=>h.elim,fun _ _ h=>h.elim⟩
  |cells t y ts=>
   have htt:=hr.ty c _ _ _ _ _ _ hL hR;subst htt;obtain⟨y2,z,hbY,hset,hq⟩:=a03 hbb
   simp only[aSQ,true_and] at hq;subst hq;have hblk:=hr.heap.blk c _ (by rw[xD];exact hR);obtain⟨p',cs',hp',hRd',hra',hth',hns',htk'⟩:=hblk;have hJc:=hr.J c _ _ _ hL;have hpc:g'.J c=some ⟨p.1,p.2+o,p.3⟩:=by
    rw[hJc];show uQ g W[c]? =_;rw[hW];simp [uQ,hp]
   rw[hpc] at hp';obtain rfl:=aSr hp';have hRdx:Rd (tN g g' base W (qQ upd)) w' u x cs:=wE hle hRd;have hRdy:Rd (tN g g' base W (qQ upd)) w' t y2 cs':=aAF hH hm hr hb hf hRd' hbY;obtain⟨c1,c2,c3,hcs,hl1,hl2,hz⟩:=Q8 hRdy hRdx hset;subst hcs;subst hl1;have l0:=sV hRd;have l1:=sV hRd';simp only[aSp] at l0;have hfar: ∀q,q<u.cells->¬(c1.length<=q/\q<c1.length+t.cells)->¬yE (uR g W) (r8 0 L) p.1 (p.2+q):=by
    intro q hq hno hown;obtain⟨c',wh',b',blk',k1,k2,k3,k4,k5⟩:=aAI hH hm hown;by_cases hcc:c'=c
    .subst hcc;rw[hW] at k1;obtain rfl:=aSr k1;rw[hL] at k2;obtain rfl:=aSr k2;obtain⟨pp,hpp,e1,e2,e3⟩:=k3;have hpp':uQ g W[c']? =some pp:=hpp;rw[hW] at hpp';simp only[uQ,hp,Option.map_some,aSm] at hpp';subst hpp';simp only at e2 e3;exact hno ⟨pQ,pQ⟩
    have hid:wh'.id≠i:=fun e=>hcc (VB hm.nodup k1 hW e);exact hH.dis wh'.id i blk' _ p.1 (p.2+q) hid k4 h1 k5 ⟨p,hp,rfl,pQ,pQ⟩
   have hlt': ∀q,q<u.cells->p.1<w.heap.size:=fun q hq=>KY (hH.blk i _ h1) (b:=p.1) (o:=p.2+q) ⟨p,hp,rfl,pQ,pQ⟩;have hkeep: ∀q,q<u.cells->¬(c1.length<=q/\q<c1.length+t.cells)->w'.cell? ⟨p.1,p.2+q,none⟩=w.cell? ⟨p.1,p.2+q,none⟩/\w'.frozen? ⟨p.1,p.2+q,none⟩=w.frozen? ⟨p.1,p.2+q,none⟩:=fun q hq hno=>hr.fr.cell _ _ (hlt' q hq) (hfar q hq hno);refine⟨⟨p,c1++cs'++c3,by rw[hJi];exact hp,hz,fun q vv hv=>?_,⟨fun q hq=>?_,fun h0 s hs=>?_⟩,fun q hq hs=>?_,?_⟩,fun bb oo ho=>⟨?_,h1⟩,fun bb oo ho=>?_⟩
   .by_cases a1:q<c1.length
    .rw[(hkeep q pQ pQ).1];refine hra q vv ?_;rw[aSB,aSG a1] at hv|-;exact hv
    by_cases a2:q<c1.length+t.cells
    .rw[aSB,aSw pQ,aSG pQ] at hv;have:=hra' (q-c1.length) vv hv;rwa [show p.2+c1.length+(q-c1.length)=p.2+q from by omega] at this
    rw[aSB,aSw pQ,aSw pQ] at hv;have hq:q<u.cells:=by
     have:=(aSD.1 hv).1;omega
    rw[(hkeep q hq pQ).1];refine hra q vv ?_;rw[aSB,aSw pQ,aSw pQ,hl2];rw[l1] at hv;exact hv
   .by_cases a1:c1.length<=q/\q<c1.length+t.cells
    .have:=hth'.1 (q-c1.length) pQ;rwa [show p.2+c1.length+(q-c1.length)=p.2+q from by omega] at this
    rw[(hkeep q hq a1).1,(hkeep q hq a1).2];exact hth.1 q hq
   .by_cases ht0:0<t.cells
    .exact hth'.2 ht0 s hs
    exact(hr.fr.shape p.1 s (hth.2 h0 s hs)).resolve_right fun h=>hfar 0 h0 pQ (h (p.2+0))
   .by_cases a1:c1.length<=q/\q<c1.length+t.cells
    .exact hns' (q-c1.length) pQ (by rw[show p.2+c1.length+(q-c1.length)=p.2+q from by omega];exact hs)
    rcases hr.fr.new _ _ hs with k|k|k
    .exact hns q hq k
    .have:=hlt' q hq;omega
    exact hfar q hq a1 k
   .intro q kk hmem;rcases wQ.1 hmem with hmem|hmem
    .obtain⟨q',c',k1,k2,rfl⟩:=VE hmem;rw[zS] at k2;obtain⟨u',l,vv,g1,g2,g3⟩:=htk' q' c' k1;have hq':=a98 g1;refine⟨u',l,vv,a97 hset (aAG hbY g1) hq',?_,?_⟩
     .rw[aSB,aSw pQ,aTb,aSG pQ];exact g2
     rw[(GO hH hm hr hb hf k2).2];exact g3
    obtain⟨k1,k2⟩:=a04 hmem;obtain⟨u',l,vv,g1,g2,g3⟩:=htk q kk k1;refine⟨u',l,vv,V0 hH hset g1 k2,?_,hle.cur _ _ _ g3⟩;rcases aTE q c1.length with a1|a1
    .rw[aSB,aSG a1] at g2|-;exact g2
    rw[aSB,aSw pQ,aSw pQ] at g2|-;rw[l1];rw[hl2] at g2;exact g2
   .obtain⟨pp,hpp,e1,e2,e3⟩:=ho;rw[hJi,hp] at hpp;obtain rfl:=aSr hpp;exact⟨p,hp,e1,e2,e3⟩
   obtain⟨pp,hpp,e1,e2,e3⟩:=ho;rw[hJi,hp] at hpp;obtain rfl:=aSr hpp;subst e1;by_cases a1:c1.length<=oo-p.2/\oo-p.2<c1.length+t.cells
   .exact .inl ⟨_,hpc,rfl,by simp only;omega,by simp only;omega⟩
   right;refine⟨hlt' (oo-p.2) pQ,?_⟩;have:=hfar (oo-p.2) pQ a1;rwa [show p.2+(oo-p.2)=oo from by omega] at this
theorem a07 {c:Nat}{b0 b:qJ}(hn:W[c]? =none) (hR:r.H[c]? =some b0) (hbn:yA base r.H.length c W b0=some (base+c,b)):
  A2 (tN g g' base W (qQ upd)) w' (base+c) b/\∀bb oo,s9 (tN g g' base W (qQ upd)) (base+c) b bb oo->s9 g' c b0 bb oo:=by
 have hc:=(aSD.1 hR).1;obtain⟨hJ,hcur⟩:=L7 hH hm hr hb hf hc hn;have hblk:=hr.heap.blk c _ (by rw[xD];exact hR);cases b0 with
 |dead=>
  simp only[yA,aSm,aSQ,true_and] at hbn;subst hbn;exact⟨trivial,fun _ _ h=>h.elim⟩
 |grow e m k=>
  simp only[yA,aSm,aSQ,true_and] at hbn;subst hbn;obtain⟨u,xs,hv,h1,h2,h3⟩:=hblk;exact⟨⟨u,xs,by rw[hcur];exact hv,h1,fun m hm'=>by rw[hcur];exact h2 m hm',h3⟩,fun bb oo ⟨v',hv',hb'⟩=>⟨v',by rw[hcur] at hv';exact hv',hb'⟩⟩
 |row e t l n=>
  simp only[yA] at hbn;split at hbn
  .rename_i hp;simp only[aSm,aSQ,true_and] at hbn;subst hbn;obtain⟨h0,u,xs,hv,h1,h4,h2,h3⟩:=hblk;exact⟨⟨h0,u,xs,by rw[hcur];exact hv,h1,CH (fun _ _ h=>vW (g:=g') (g':=tN g g' base W (qQ upd)) rfl hp h) h4,fun m hm'=>by rw[hcur];exact h2 m hm',h3⟩,fun bb oo ⟨v',hv',hb'⟩=>⟨v',by rw[hcur] at hv';exact hv',hb'⟩⟩
  .cases hbn
 |iter s n=>simp [yA] at hbn
 |map k v l=>
  simp only[yA] at hbn;split at hbn
  .rename_i hp;rw[aSA] at hp;simp only[aSm,aSQ,true_and] at hbn;subst hbn;obtain⟨p,es,cl,hp1,hp0,hh,hM,hS⟩:=hblk;exact⟨⟨p,es,cl,by rw[hJ];exact hp1,hp0,hh,Q7 (g:=g') (g':=tN g g' base W (qQ upd)) rfl hp.1 hp.2 hM,hS⟩,fun bb oo ⟨pp,hpp,e⟩=>⟨pp,by rw[hJ] at hpp;exact hpp,e⟩⟩
  .cases hbn
 |cells t y ts=>
  have fin: ∀y2,bY base r.H.length W t y y2->A2 (tN g g' base W (qQ upd)) w' (base+c) (.cells t y2 (DO base r.H.length W 0 ts))/\∀bb oo,s9 (tN g g' base W (qQ upd)) (base+c) (.cells t y2 (DO base r.H.length W 0 ts)) bb oo->s9 g' c (.cells t y ts) bb oo:=by
   intro y2 hbY;obtain⟨p,cs,hp1,hR1,h1,h2,h3,h4⟩:=hblk;refine⟨⟨p,cs,by rw[hJ];exact hp1,aAF hH hm hr hb hf hR1 hbY,h1,h2,h3,fun q kk hmem=>?_⟩,fun bb oo ⟨pp,hpp,e⟩=>⟨pp,by rw[hJ] at hpp;exact hpp,e⟩⟩;obtain⟨q',c',k1,k2,rfl⟩:=VE hmem;rw[zS] at k2;obtain⟨u',l,vv,g1,g2,g3⟩:=h4 q' c' k1;exact⟨u',l,vv,by rw[aSU];exact aAG hbY g1,by rw[aSU];exact g2,by rw[(GO hH hm hr hb hf k2).2];exact g3⟩
  simp only[yA] at hbn;split at hbn
  .rename_i hp;simp only[aSm,aSQ,true_and] at hbn;subst hbn;exact fin y (.inl ⟨hp,rfl⟩)
  obtain⟨y2,hy,hq⟩:=aAB hbn;simp only[aSQ,true_and] at hq;subst hq;exact fin y2 (.inr hy)
theorem a08 {c k:Nat}{b0 b:qJ}(hW:W[c]? =some (.tok k)) (hR:r.H[c]? =some b0) (hbk:wB k b0=some (k,b)):
  A2 (tN g g' base W (qQ upd)) w' k b/\∀bb oo,s9 (tN g g' base W (qQ upd)) k b bb oo->s9 g' c b0 bb oo:=by
 obtain⟨hJ,hcur⟩:=aAD hH hm hr hb hf hW;have hblk:=hr.heap.blk c _ (by rw[xD];exact hR);cases b0 with
 |dead=>
  simp only[wB,aSm,aSQ,true_and] at hbk;subst hbk;exact⟨trivial,fun _ _ h=>h.elim⟩
 |grow e m n=>
  simp only[wB,aSm,aSQ,true_and] at hbk;subst hbk;obtain⟨u,xs,hv,h1,h2,h3⟩:=hblk;exact⟨⟨u,xs,by rw[hcur];exact hv,h1,fun m hm'=>by rw[hcur];exact h2 m hm',h3⟩,fun bb oo ⟨v',hv',hb'⟩=>⟨v',by rw[hcur] at hv';exact hv',hb'⟩⟩
 |row e t l n=>
  simp only[wB] at hbk;split at hbk
  .rename_i hp;simp only[aSm,aSQ,true_and] at hbk;subst hbk;obtain⟨h0,u,xs,hv,h1,h4,h2,h3⟩:=hblk;exact⟨⟨h0,u,xs,by rw[hcur];exact hv,h1,CH (fun _ _ h=>vW (g:=g') (g':=tN g g' base W (qQ upd)) rfl hp h) h4,fun m hm'=>by rw[hcur];exact h2 m hm',h3⟩,fun bb oo ⟨v',hv',hb'⟩=>⟨v',by rw[hcur] at hv';exact hv',hb'⟩⟩
  .cases hbk
 |iter s n=>simp [wB] at hbk
 |map s v l=>
  simp only[wB] at hbk;split at hbk
  .rename_i hp;rw[aSA] at hp;simp only[aSm,aSQ,true_and] at hbk;subst hbk;obtain⟨p,es,cl,hp1,hp0,hh,hM,hS⟩:=hblk;exact⟨⟨p,es,cl,by rw[hJ];exact hp1,hp0,hh,Q7 (g:=g') (g':=tN g g' base W (qQ upd)) rfl hp.1 hp.2 hM,hS⟩,fun bb oo ⟨pp,hpp,e⟩=>⟨pp,by rw[hJ] at hpp;exact hpp,e⟩⟩
  .cases hbk
 |cells t y ts=>simp [wB] at hbk
theorem aJC {side:List Prop}{s:qM}{rds:q8}{vv:qB}(hs:rO (tN g g' base W (qQ upd)) w' s vv):rL g w H ⟨side,s,upd,rds⟩ (tN g g' base W (qQ upd)) w' vv:=by
 have le:=aAE hH hm hr hb hf;have fr:=aJB hH hm hr hb hf;have gho: ∀i,i∉qQ upd->(tN g g' base W (qQ upd)).J i=g.J i/\(tN g g' base W (qQ upd)).cur i=g.cur i:=fun i hi=>
  aAC hH hm hr hb hf (fun h=>hi h.2) (VD fun c hc=>hi ((DY hH hm hr hb hf hc).1))
 have perm: ∀i blk b o,i∈qQ upd->qO (r6 upd H) i=some blk->s9 (tN g g' base W (qQ upd)) i blk b o->w.heap.size<=b\/sU g H (qQ upd) b o:=by
  intro i blk b o hi hg ho;rcases VF hH hm hr hb hf hi hg with⟨c,i',u,x,toks,off,b0,h1,h2,h3,h4⟩ |⟨c,k,b0,h1,h2,h3,h4⟩ |⟨c,b0,h1,h2,h3,h4⟩
  .subst h2;obtain⟨_,k2,_⟩:=a06 hH hm hr hb hf h1 h3 h4;exact .inr ⟨i,_,hi,(k2 b o ho).2,(k2 b o ho).1⟩
  .subst h2;obtain⟨_,k2⟩:=a08 hH hm hr hb hf h1 h3 h4;exact(hr.perm c b0 b o h3 (k2 b o ho)).imp id fun h=>a05 hH hm hr hb hf h
  rw[aSU] at h2 h4;subst h2;obtain⟨_,k2⟩:=a07 hH hm hr hb hf h3 h1 h4;exact(hr.perm c b0 b o h1 (k2 b o ho)).imp id fun h=>a05 hH hm hr hb hf h
 refine⟨le,hs,hH.upd le fr perm gho (fun i blk hi hg=>?_) (fun i j bi bj b o hi hj hij hgi hgj hoi hoj=>?_) (fun b o h=>hr.heap.sl b o h),fr,perm,gho,fun i u' y us h=>?_⟩
 .rcases VF hH hm hr hb hf hi hg with⟨c,i',u,x,toks,off,b0,h1,h2,h3,h4⟩ |⟨c,k,b0,h1,h2,h3,h4⟩ |⟨c,b0,h1,h2,h3,h4⟩
  .subst h2;exact(a06 hH hm hr hb hf h1 h3 h4).1
  .subst h2;exact(a08 hH hm hr hb hf h1 h3 h4).1
  rw[aSU] at h2 h4;subst h2;exact(a07 hH hm hr hb hf h3 h1 h4).1
 .have cls: ∀{i:Nat}{blk:qJ},i∈qQ upd->qO (r6 upd H) i=some blk->s9 (tN g g' base W (qQ upd)) i blk b o->
    (∃c u x toks off b0,W[c]? =some (.box i u x toks off)/\r.H[c]? =some b0/\s9 g i (.cells u x toks) b o/\qO H i=some (.cells u x toks)/\(s9 g' c b0 b o\/(b<w.heap.size/\¬yE (uR g W) (r8 0 L) b o)))\/
    (∃c b0,zL base r.H.length c W[c]? =some i/\r.H[c]? =some b0/\s9 g' c b0 b o):=by
   intro i blk hi hg ho;rcases VF hH hm hr hb hf hi hg with⟨c,i',u,x,toks,off,b0,h1,h2,h3,h4⟩ |⟨c,k,b0,h1,h2,h3,h4⟩ |⟨c,b0,h1,h2,h3,h4⟩
   .subst h2;obtain⟨_,k2,k3⟩:=a06 hH hm hr hb hf h1 h3 h4;exact .inl ⟨c,u,x,toks,off,b0,h1,h3,(k2 b o ho).1,(k2 b o ho).2,k3 b o ho⟩
   .subst h2;obtain⟨_,k2⟩:=a08 hH hm hr hb hf h1 h3 h4;exact .inr ⟨c,b0,by rw[h1];rfl,h3,k2 b o ho⟩
   rw[aSU] at h2 h4;subst h2;obtain⟨_,k2⟩:=a07 hH hm hr hb hf h3 h1 h4;exact .inr ⟨c,b0,by rw[h3];simp only[zL];rw[aSn (aSD.1 h1).1],h1,k2 b o ho⟩
  have cross: ∀{c c':Nat}{b0 b1:qJ},c≠c'->r.H[c]? =some b0->r.H[c']? =some b1->s9 g' c b0 b o->s9 g' c' b1 b o->False:=fun hne h1 h2 o1 o2=>
   hr.heap.dis _ _ _ _ b o hne (by rw[xD];exact h1) (by rw[xD];exact h2) o1 o2
  rcases cls hi hgi hoi with⟨c,u,x,toks,off,b0,h1,h2,h3,h4,h5⟩ |⟨c,b0,h1,h3,h4⟩<;>rcases cls hj hgj hoj with⟨c',u',x',toks',off',b0',k1,k2,k3,k4,k5⟩ |⟨c',b0',k1,k3,k4⟩
  .exact hH.dis i j _ _ b o hij h4 k4 h3 k3
  .rcases h5 with h5|⟨h5,h6⟩
   .exact cross (fun e=>by subst e;rw[h1] at k1;cases k1) h2 k3 h5 k4
   rcases hr.perm c' b0' b o k3 k4 with h|h
   .omega
   exact h6 h
  .rcases k5 with k5|⟨k5,k6⟩
   .exact cross (fun e=>by subst e;rw[k1] at h1;cases h1) h3 k2 h4 k5
   rcases hr.perm c b0 b o h3 h4 with h|h
   .omega
   exact k6 h
  exact cross (fun e=>by subst e;rw[h1] at k1;exact hij (aSr k1)) h3 k3 h4 k4
 by_cases hi:i∈qQ upd
 .rcases VF hH hm hr hb hf hi h with⟨c,i',u,x,toks,off,b0,h1,h2,h3,h4⟩ |⟨c,k,b0,h1,h2,h3,h4⟩ |⟨c,b0,h1,h2,h3,h4⟩
  .subst h2;obtain⟨_,_,bL,hL,hok⟩:=DY hH hm hr hb hf h1;cases b0 with
   |cells t y0 ts=>
    obtain⟨y2,z,_,hset,hq⟩:=a03 h4;simp only[aSQ,qJ.cells.injEq,true_and] at hq;obtain⟨rfl,_⟩:=hq;cases bL with
    |cells=>exact .inl ⟨x,toks,hok.1⟩
    |_=>exact hok.elim
   |grow=>simp [xQ] at h4
   |row=>simp [xQ] at h4
   |map=>simp [xQ] at h4
   |iter=>simp [xQ] at h4
   |dead=>simp [xQ] at h4
  .cases b0 with
   |cells t y0 ts=>simp [wB] at h4
   |iter=>simp [wB] at h4
   |map=>simp only[wB] at h4;split at h4<;>simp at h4
   |row=>simp only[wB] at h4;split at h4<;>simp at h4
   |_=>simp [wB] at h4
  rw[aSU] at h2;exact .inr (hf i hi pQ)
 exact .inl ⟨y,us,(A3 hi).symm.trans h⟩
end
section
variable {P:Program}{g:Gh}{w:q9}
def aJD (P:Program) (g:Gh) (w:q9) (d:Nat) (ty:Ty) (x y:ty.den):a0s->Prop
 | .ty t=> ∀vx vy,tB g w ty x vx->tB g w ty y vy->∃b,C6 ty x y=some b/\(Op.equalIn (d+1) t vx vy).run P w= .ok b w
 | .fs o l=> ∀px py cx cy,px.length=o->py.length=o->Rd g w ty x cx->Rd g w ty y cy->∃b,C6 ty x y=some b/\(Op.eqFields (d+1) (px++cx).toArray (py++cy).toArray l).run P w= .ok b w
 | .el e i m=> ∀px py cx cy,px.length=i*P.cellsOf e->py.length=i*P.cellsOf e->Rd g w ty x cx->Rd g w ty y cy->∃b,C6 ty x y=some b/\(Op.eqItems (d+1) e (P.cellsOf e) (px++cx).toArray (py++cy).toArray (List.range' i m)).run P w= .ok b w
theorem aJE {e:TypeId}{n:Nat}(h:(P.info? e).map (·.size)=some n):P.cellsOf e=n:=by
 obtain⟨i,h1,h2⟩:=aSE.1 h;simp [Program.cellsOf,h1,h2]
theorem yP.run {n:Nat}{ix:a0s}{ty:Ty}(h:yP P n ix ty): ∀(d:Nat),n<=d->∀x y:ty.den,aJD P g w d ty x y ix:=by
 induction h with
 |bool hu=>
  intro d _ x y vx vy hx hy;obtain rfl:=vF hx;obtain rfl:=vF hy;exact⟨_,rfl,run_equalIn_bool' w d _ _ _ hu⟩
 |int hu=>
  intro d _ x y vx vy hx hy;obtain rfl:=vX hx;obtain rfl:=vX hy;refine⟨_,rfl,(run_equalIn_int w d _ _ _ _ _ hu).trans ?_⟩;congr 1
 |str hu=>
  intro d _ x y vx vy hx hy;obtain rfl:=wI hx;obtain rfl:=wI hy;refine⟨_,rfl,(run_equalIn_string w d _ _ _ hu).trans ?_⟩;congr 1;rw[ByteArray.toList_eq,ByteArray.toList_eq];exact QB _ _
 | @struct h0 t0 fs0 ty0 hr hu hs _ ih=>
  intro d hd x y vx vy hx hy;obtain⟨cx,rfl,rx⟩:=L2 hr hx;obtain⟨cy,rfl,ry⟩:=L2 hr hy;obtain⟨d,rfl⟩: ∃d',d=d'+1:=⟨d-1,pQ⟩;obtain⟨b,h1,h2⟩:=ih d pQ x y [] [] cx cy rfl rfl rx ry;refine⟨b,h1,?_⟩;have hf:P.fieldsOf t0=fs0:=by unfold Program.fieldsOf;rw[hu]
  rw[run_equalIn_struct w _ _ _ _ (by rw[hf];exact hu) hs,hf];simpa using h2
 |arr hr hu hi _ ih=>
  intro d hd x y vx vy hx hy;obtain⟨cx,rfl,rx⟩:=L2 hr hx;obtain⟨cy,rfl,ry⟩:=L2 hr hy;obtain⟨d,rfl⟩: ∃d',d=d'+1:=⟨d-1,pQ⟩;obtain⟨b,h1,h2⟩:=ih d pQ x y [] [] cx cy pS pS rx ry;refine⟨b,h1,?_⟩;obtain⟨i,hi⟩:=aSs.1 hi;rw[run_equalIn_array w _ _ _ hu hi,List.range_eq_range'];simpa using h2
 |nil=>
  intro d _ x y px py cx cy _ _ _ _;exact⟨true,rfl,by simp [Op.eqFields]⟩
 |anil=>
  intro d _ x y px py cx cy _ _ _ _;exact⟨true,rfl,by simp [Op.eqItems]⟩
 | @cons h o f r a b hn ho hsz hrow _ _ iha ihb=>
  intro d hd x y px py cx cy hpx hpy ⟨x1,x2,ex,rx1,rx2⟩ ⟨y1,y2,ey,ry1,ry2⟩;subst ex;subst ey;obtain⟨vx,p1,v1⟩:=QC (P:=P) (c1:=px) (c3:=x2) hsz hrow rx1;obtain⟨vy,p2,v2⟩:=QC (P:=P) (c1:=py) (c3:=y2) hsz hrow ry1;obtain⟨b1,e1,r1⟩:=iha d hd x.1 y.1 vx vy v1 v2;obtain⟨b2,e2,r2⟩:=ihb d hd x.2 y.2 (px++x1) (py++y1) x2 y2 (by rw[aSp,hpx,sV rx1]) (by rw[aSp,hpy,sV ry1]) rx2 ry2;refine⟨b1&&b2,by simp only[C6,e1,e2,C6.eqAnd],?_⟩;rw[aSB] at p1 p2 r2;rw[aSB] at r2;rw[hpx,<-ho] at p1;rw[hpy,<-ho] at p2;simp only[Op.eqFields,aSn hn,aSz,p1,p2,aSu,r1];cases b1
  .simp
  .simpa using r2
 | @acons h e i m a b hsz hrow _ _ iha ihb=>
  intro d hd x y px py cx cy hpx hpy ⟨x1,x2,ex,rx1,rx2⟩ ⟨y1,y2,ey,ry1,ry2⟩;subst ex;subst ey;have hc:=aJE hsz;obtain⟨vx,p1,v1⟩:=QC (P:=P) (c1:=px) (c3:=x2) hsz hrow rx1;obtain⟨vy,p2,v2⟩:=QC (P:=P) (c1:=py) (c3:=y2) hsz hrow ry1;obtain⟨b1,e1,r1⟩:=iha d hd x.1 y.1 vx vy v1 v2;obtain⟨b2,e2,r2⟩:=ihb d hd x.2 y.2 (px++x1) (py++y1) x2 y2 (by rw[aSp,hpx,sV rx1,hc,aTy]) (by rw[aSp,hpy,sV ry1,hc,aTy]) rx2 ry2;refine⟨b1&&b2,by simp only[C6,e1,e2,C6.eqAnd],?_⟩;rw[aSB] at p1 p2 r2;rw[aSB] at r2;rw[hpx] at p1;rw[hpy] at p2;simp only[aT8,Op.eqItems,aSz,p1,p2,aSu,r1];cases b1
  .simp
  simpa using r2
def GP:qB->Bool
 | .nilFunc=>true
 |_=>false
theorem aJF {w:q9}(d:Nat) {t:TypeId}{a b:_}{c:_}(h:P.underlying t=some (.func a b c)) (v:qB) (hv:v= .nilFunc\/∃f y z,v= .func f y z):
  (Op.equalIn (d+1) t v .nilFunc).run P w= .ok (GP v) w:=by
 rcases hv with rfl|⟨f,y,z,rfl⟩<;>simp [Op.equalIn,aSK h,GP]
theorem aAJ {w:q9}{t:TypeId}{a b:_}{c:_}(h:P.underlying t=some (.func a b c)) (v:qB) (hv:v= .nilFunc\/∃f y z,v= .func f y z):
  (Go.binOp .eql t v .nilFunc).run P w= .ok (.bool (GP v)) w/\(Go.binOp .neq t v .nilFunc).run P w= .ok (.bool (!(GP v))) w:=by
 have h1:=aJF (P:=P) (w:=w) 9999 h v hv;have h2:(Op.equal t v .nilFunc).run P w= .ok (GP v) w:=h1;rcases hv with rfl|⟨f,y,z,rfl⟩
 .exact⟨by simp only[Go.binOp,aSz,h2];rfl,by simp only[Go.binOp,aSz,h2];rfl⟩
 exact⟨by simp only[Go.binOp,aSz,h2];rfl,by simp only[Go.binOp,aSz,h2];rfl⟩
variable {o:Oper}{a:Act}{H:s7}{T:sS}(hT:xA P T) (hH:sE g w H)
include hT hH
theorem aJG {op:BinOp}{xt yt:TypeId}{x y:Operand}(ho:o.op= .binOp op xt x y yt) {sx sy:qM}(hx:rO g w sx (a.eval x)) (hy:rO g w sy (a.eval y)) {e:qS}
  (hr:AK (YO (rR T xt) op sx sy)=some e):rH P o a g w H e:=by
 obtain⟨q,hq,rfl⟩:=IJ hr;have go: ∀{u v:qB},a.eval x=u->a.eval y=v->(∃z,(do eqGuard op xt x y u v;Go.binOp op xt u v:Sem qB).run P w= .ok z w/\yO g w q.2 z)->rH P o a g w H ⟨q.1,(q.2,none),[],[]⟩:=by
  rintro u v rfl rfl ⟨z,hz,hd⟩;refine rH.pure hH (v:=z) ?_ hd;unfold execOp;rw[ho];simp only[aSz,aSN] at hz|-;rw[hz];rfl
 replace hx:=hx.1;replace hy:=hy.1;generalize hti:rR T xt=oti at hq;unfold YO at hq;split at hq
 .rename_i u el by' ar ls_ t l k k';have hd:=(sZ hT hti).2;simp only[x9] at hd;obtain⟨ax,cx,ex,hle,hll⟩:=DT hx;have hnil:ax=none->l=[]:=fun h=>by
   rcases hll with h1|⟨b,o,h1,_⟩
   .exact h1
   rw[h] at h1;cases h1
  have ey:a.eval y= .slice none 0 0:=hy;refine go ex ey ?_;unfold SS at hq;split at hq
  .cases hq;have h1:(do eqGuard .eql xt x y (.slice ax (List.length l) cx) (.slice none 0 0);Go.binOp .eql xt (.slice ax (List.length l) cx) (.slice none 0 0):Sem qB).run P w= .ok (.bool ax.isNone) w:=by
    simp only[aSz];rw[show (eqGuard .eql xt x y (.slice ax (List.length l) cx) (.slice none 0 0)).run P w= .ok () w from by simp [eqGuard]];exact Lib.run_eql_slice_nil (P:=P) w xt _ ax (List.length l) cx 0 0 hd.1
   exact⟨_,h1,_,rfl,fun h=>hnil (by simpa using h),fun _=>trivial⟩
  .cases hq;have h1:(do eqGuard .neq xt x y (.slice ax (List.length l) cx) (.slice none 0 0);Go.binOp .neq xt (.slice ax (List.length l) cx) (.slice none 0 0):Sem qB).run P w= .ok (.bool (!ax.isNone)) w:=by
    simp only[aSz];rw[show (eqGuard .neq xt x y (.slice ax (List.length l) cx) (.slice none 0 0)).run P w= .ok () w from by simp [eqGuard]];exact run_neq_slice_nil_any (P:=P) w xt _ ax (List.length l) cx 0 0 hd.1
   exact⟨_,h1,_,rfl,fun _=>trivial,fun h=>hnil (by simpa using h)⟩
  cases hq
 .rename_i u el by' ar ls_ k t l k';have hd:=(sZ hT hti).2;simp only[x9] at hd;obtain⟨ay,cy,ey,hle,hll⟩:=DT hy;have hnil:ay=none->l=[]:=fun h=>by
   rcases hll with h1|⟨b,o,h1,_⟩
   .exact h1
   rw[h] at h1;cases h1
  have ex:a.eval x= .slice none 0 0:=hx;refine go ex ey ?_;unfold SS at hq;split at hq
  .cases hq;have h1:(do eqGuard .eql xt x y (.slice none 0 0) (.slice ay (List.length l) cy);Go.binOp .eql xt (.slice none 0 0) (.slice ay (List.length l) cy):Sem qB).run P w= .ok (.bool ay.isNone) w:=by
    simp only[aSz];rw[show (eqGuard .eql xt x y (.slice none 0 0) (.slice ay (List.length l) cy)).run P w= .ok () w from by simp [eqGuard]];exact run_eql_nil_slice (P:=P) w xt _ ay (List.length l) cy 0 0 hd.1
   exact⟨_,h1,_,rfl,fun h=>hnil (by simpa using h),fun _=>trivial⟩
  .cases hq;have h1:(do eqGuard .neq xt x y (.slice none 0 0) (.slice ay (List.length l) cy);Go.binOp .neq xt (.slice none 0 0) (.slice ay (List.length l) cy):Sem qB).run P w= .ok (.bool (!ay.isNone)) w:=by
    simp only[aSz];rw[show (eqGuard .neq xt x y (.slice none 0 0) (.slice ay (List.length l) cy)).run P w= .ok () w from by simp [eqGuard]];exact run_neq_nil_slice (P:=P) w xt _ ay (List.length l) cy 0 0 hd.1
   exact⟨_,h1,_,rfl,fun _=>trivial,fun h=>hnil (by simpa using h)⟩
  cases hq
 .rename_i el by' ar ls_ x' k1 k2;have hd:=(sZ hT hti).2;simp only[x9] at hd;obtain⟨fa,fb,fc,hd⟩:=hd.1;have ey:a.eval y= .nilFunc:=by
   have:=xB rfl hy;simpa[Rd,IG] using this
  obtain⟨hf,hm⟩:(a.eval x= .nilFunc\/∃f y z,a.eval x= .func f y z)/\GP (a.eval x)=decide (x'.1=0):=by
   obtain⟨c,i,⟨k3,n3⟩,⟨k4,n4⟩⟩:=x';rcases xB rfl hx with⟨h0,e⟩ |⟨h0,b,α,e,_⟩
   .simp only[aS8,and_true] at e;rw[e];exact⟨.inl rfl,by simp [h0,GP]⟩
   simp only[aS8,and_true] at e;rw[e];exact⟨.inr ⟨_,_,_,rfl⟩,by simp [h0,GP]⟩
  have hr2:=aAJ (P:=P) (w:=w) hd (a.eval x) hf;rw[hm] at hr2;refine go rfl ey ?_;have hgd: ∀op,(eqGuard op xt x y (a.eval x) .nilFunc).run P w= .ok () w:=fun op=>by
   rcases hf with e|⟨f,x1,x2,e⟩<;>rw[e]<;>cases op<;>simp [eqGuard]
  unfold MU at hq;split at hq
  .rename_i r e1;cases e1;cases hq;exact⟨_,by simp only[aSz,hgd,aSu];exact hr2.1,vG _ _ _⟩
  .rename_i r e1;cases e1;cases hq;exact⟨_,by simp only[aSz,hgd,aSu];exact hr2.2,vG _ _ _⟩
  cases hq
 .rename_i el by' ar ls_ x' k1 k2;have hd:=(sZ hT hti).2;simp only[x9] at hd;obtain⟨fa,fb,fc,hd⟩:=hd;have ey:a.eval y= .nilFunc:=by
   have:=xB rfl hy;simpa[Rd,IG] using this
  obtain⟨hf,hm⟩:(a.eval x= .nilFunc\/∃f y z,a.eval x= .func f y z)/\GP (a.eval x)=yW x':=by
   have e:=xB rfl hx;cases x' with
   |none=>
    simp only[Rd,UQ,aS8,and_true] at e;rw[e];exact⟨.inl rfl,rfl⟩
   |some f=>
    simp only[Rd,UQ,aS8,and_true] at e;rw[e];exact⟨.inr ⟨_,_,_,rfl⟩,rfl⟩
  have hr2:=aAJ (P:=P) (w:=w) hd (a.eval x) hf;rw[hm] at hr2;refine go rfl ey ?_;have hgd: ∀op,(eqGuard op xt x y (a.eval x) .nilFunc).run P w= .ok () w:=fun op=>by
   rcases hf with e|⟨f,x1,x2,e⟩<;>rw[e]<;>cases op<;>simp [eqGuard]
  unfold MU at hq;split at hq
  .rename_i r e1;cases e1;cases hq;exact⟨_,by simp only[aSz,hgd,aSu];exact hr2.1,vG _ _ _⟩
  .rename_i r e1;cases e1;cases hq;exact⟨_,by simp only[aSz,hgd,aSu];exact hr2.2,vG _ _ _⟩
  cases hq
 .rename_i u el b ar ls_ t x' k t' y' k' _ _;unfold a8L at hq;split at hq
  .rename_i htt;subst htt;split at hq
   .rename_i hc;obtain⟨rfl,hc⟩:=hc;simp only[tV] at hq;obtain⟨r,hr1,hr2⟩: ∃r,C6 t' x' y'=some r/\((op= .eql/\q=([],.val .bool r))\/(op= .neq/\q=([],.val .bool (!r)))):=by
     generalize hgen:C6 t' x' y'=od at hq;unfold MU at hq;split at hq
     .rename_i r;cases hq;exact⟨r,rfl,.inl ⟨rfl,rfl⟩⟩
     .rename_i r;cases hq;exact⟨r,rfl,.inr ⟨rfl,rfl⟩⟩
     cases hq
    have hti':=sZ hT hti;rcases hc with rfl|⟨hrow,rfl⟩
    .have hd:=hti'.2;simp only[x9] at hd;obtain hbx:=vF hx;obtain hby:=vF hy;refine go hbx hby ?_;have hrr:r=(x'==y'):=(aSr hr1).symm;subst hrr;have hrun:=run_equalIn_bool' (P:=P) w 9999 xt x' y' hd;rcases hr2 with⟨rfl,rfl⟩ |⟨rfl,rfl⟩
     .refine⟨.bool (x'==y'),?_,vG _ _ _⟩;simp only[aSz];rw[show (eqGuard .eql xt x y (.bool x') (.bool y')).run P w= .ok () w from by simp [eqGuard]];simp only[aSu,Go.binOp,Op.equal,Op.maxDepth,aSz,hrun,aSN]
     refine⟨.bool (!(x'==y')),?_,vG _ _ _⟩;simp only[aSz];rw[show (eqGuard .neq xt x y (.bool x') (.bool y')).run P w= .ok () w from by simp [eqGuard]];simp only[aSu,Go.binOp,Op.equal,Op.maxDepth,aSz,hrun,aSN]
    have h2:=hti'.2;have heq:P.eqGuardType P.depth xt=false/\∃h,h<9000/\yP P h (.ty xt) t':=by
     unfold x9 at h2;cases t'<;>simp only[Ty.isRow,aTO] at hrow
     all_goals exact h2.2 rfl
    obtain⟨hg1,hh,hlt,hE⟩:=heq;obtain⟨cx,ex,rx⟩:=L2 hrow hx;obtain⟨cy,ey,ry⟩:=L2 hrow hy;obtain⟨b',hb1,hb2⟩:=hE.run (g:=g) (w:=w) 9999 pQ x' y' _ _ hx hy;rw[hr1] at hb1;obtain rfl:=aSr hb1;rw[ex,ey] at hb2;refine go ex ey ?_;rcases hr2 with⟨rfl,rfl⟩ |⟨rfl,rfl⟩
    .refine⟨.bool r,?_,vG _ _ _⟩;simp only[aSz];rw[run_eqGuard_agg w _ _ _ _ _ _ hg1];simp only[aSu];rw[run_eql_struct,hb2];rfl
    refine⟨.bool (!r),?_,vG _ _ _⟩;simp only[aSz];rw[run_eqGuard_agg w _ _ _ _ _ _ hg1];simp only[aSu];rw[run_neq_struct,hb2];rfl
   cases hq
  cases hq
 cases hq
end
end Go.Proofs.YtcpbaddnmpeipaaGreatDoor.Vc
namespace Go.Proofs.YtcpbaddnmpeipaaGreatDoor.Vc
open Go.RowKit
theorem aJH (s:pM):Lib.strCells ⟨s.toArray⟩=s.map fun b=>Value.int .u8 b.toNat:=by
 simp [Lib.strCells]
theorem aJI {P:Program}(w:q9) (t u ty e:TypeId) (i:TypeInfo) (ht:P.underlying t=some (.slice e)) (hu:P.underlying u=some .string) (hi:P.info? e=some i) (hz:i.zero=some (.int .u8 0))
  (hsize:i.size=1) (hby:i.bytes=1) (v:qB) (n:Nat) (xs:pX) (hown:w.ownsRow 0 e 1 v n xs) (s:ByteArray) (hm:0<s.size)
  (h63:n+s.size<=maxLen) (hbytes:n+s.size<=140737488355328):
  ∃q cap w',(Builtin.append_ #[t,u] ty #[v,.string s]).run P w= .ok (.slice (some ⟨q,0,none⟩) (n+s.size) cap) w'/\w'.ownsRow 0 e 1 (.slice (some ⟨q,0,none⟩) (n+s.size) cap) (n+s.size) (xs++Lib.strCells s)/\
   (q=w.heap.size\/v.ownBlock=some q)/\w.grownBy w' v.ownBlock/\n+s.size<=cap/\
   ∀b o,b<w.heap.size->(v.ownBlock=some b->o<n*1)->w'.cell? ⟨b,o,none⟩=w.cell? ⟨b,o,none⟩:=by
 have hsmall:n+s.size<=9223372036854775807:=by simp only[maxLen] at h63;omega
 have hxl:xs.length=n:=by simpa using hown.1
 have hlen:(xs++Lib.strCells s).length=(n+s.size)*1:=by rw[aSp,hxl,Lib.strCells_length,aUd]
 have grown: ∀(old:Nat),old<n+s.size->∀(row:pZ),
   (w.drew.alloc (.cells (xs.toArray++(Lib.strCells s).toArray++Builtin.zeroCells (Value.int .u8 0).cells (grownCap w (n+s.size) old e- (n+s.size))) e)).ownsRow 0 e 1
    (.slice (some ⟨w.heap.size,0,none⟩) (n+s.size) (grownCap w (n+s.size) old e)) (n+s.size) (xs++Lib.strCells s)/\
   w.grownBy (w.drew.alloc (.cells (xs.toArray++(Lib.strCells s).toArray++Builtin.zeroCells (Value.int .u8 0).cells (grownCap w (n+s.size) old e- (n+s.size))) e)) row/\n+s.size<=grownCap w (n+s.size) old e/\
   ∀b o,b<w.heap.size->(w.drew.alloc (.cells (xs.toArray++(Lib.strCells s).toArray++Builtin.zeroCells (Value.int .u8 0).cells (grownCap w (n+s.size) old e- (n+s.size))) e)).cell? ⟨b,o,none⟩=w.cell? ⟨b,o,none⟩:=by
  intro old ho row;have hge:=grownCap_ge w (n+s.size) old e;have hcm:grownCap w (n+s.size) old e<=maxLen:=grownCap_le_maxLen w (n+s.size) old e h63;refine⟨⟨hlen,.inr ⟨w.heap.size,_,_,rfl,aTo _,aUv w.drew _,hge,hcm,?_,?_⟩⟩,⟨rfl,rfl,rfl,by simp,fun k hk _=>aST w.drew _ k hk⟩,hge,fun b o hb=>aSL (w:=w) (a:=⟨b,o,none⟩) (aST w.drew _ b hb)⟩
  .have hz1:(Value.int IntKind.u8 0).cells.size=1:=rfl;simp only[aUx,aTp,size_zeroCells,hz1,hxl,Lib.strCells_length];omega
  simp only[Array.toList_append,aSB];rw[<-aSB,<-hlen];exact aTK
 rcases hown.2 with⟨rfl,rfl⟩ |⟨g,cap,cur,rfl,hbg,hg,hnc,hcm,hcs,htake⟩
 .have hx:xs=[]:=aSS hxl;subst hx;have hr:=run_append_nil_string (P:=P) w t u ty e i (.int .u8 0) ht hu hi hz s pQ pQ (by rw[hby];omega);have hgr:=grown 0 pQ (Value.ownBlock (.slice none 0 0));simp only[aSU,List.nil_append,Array.empty_append] at hgr|-;have e1:(s.data.map fun b=>Value.int .u8 b.toNat)=(Lib.strCells s).toArray:=by
   apply Array.ext';simp [Lib.strCells]
  rw[e1] at hr;exact⟨_,_,_,hr,hgr.1,.inl rfl,hgr.2.1,hgr.2.2.1,fun b o hb _=>hgr.2.2.2 b o hb⟩
 by_cases hroom:n+s.size<=cap
 .have hcs':cur.size=cap:=by simpa using hcs
  have hr:=Lib.run_append_room_string (P:=P) w t u ty e i ht hu hi hsize g n cap cur hg s hroom pQ;refine⟨_,_,_,hr,⟨hlen,.inr ⟨g,cap,_,rfl,hbg,aUy w g cur _ e _ hg,hroom,hcm,?_,?_⟩⟩,.inr rfl,⟨rfl,rfl,rfl,by simp,fun k _ hk=>aUc w g k _ (fun e=>hk (by simp [Value.ownBlock,e]))⟩,hroom,fun b o hb hso=>?_⟩
  .simp only[aTp,aSp,aS0,aSW,aTe,Lib.strCells_length];omega
  .have ht':cur.toList.take n=xs:=by simpa using htake
   rw[ht',<-hlen];exact aTK
  by_cases hbg':b=g
  .subst hbg';have ho:=hso rfl;rw[cell_setRow_same w b o cur _ e _ hg,cell_of_row w b o cur e (0,0) hg];have hlt:o<(cur.toList.take n).length:=by rw[aS0,aTe];omega
   have hlt2:o<cur.size:=by rw[aS0,aTe] at hlt;omega
   simp only[List.getElem?_toArray,aSB];rw[aSG hlt,List.getElem?_take,aSn pQ];simp
  exact aSL (a:=⟨b,o,none⟩) (aUc w g b _ hbg')
 have holds: ∀j u,xs[j]? =some u->w.cell? ((⟨g,0,none⟩:Addr).add j)=some u:=hown.cells (g:=g) rfl;have hr:=Lib.run_append_grow_string (P:=P) w t u ty e i (.int .u8 0) ht hu hi hz ⟨g,0,none⟩ n cap xs (by rw[hsize];simpa using hxl) holds s pQ pQ (by rw[hby];exact growslice_fits pQ pQ);have hgr:=grown cap pQ (Value.ownBlock (.slice (some ⟨g,0,none⟩) n cap));exact⟨_,_,_,hr,hgr.1,.inl rfl,hgr.2.1,hgr.2.2.1,fun b o hb _=>hgr.2.2.2 b o hb⟩
theorem aJJ {P:Program}(w:q9) (t u ty e:TypeId) (i:TypeInfo) (ht:P.underlying t=some (.slice e)) (hu:P.underlying u=some .string) (hi:P.info? e=some i) (hsize:i.size=1) (ad:Option Addr) (n c:Nat) (hle:n<=c):
  (Builtin.append_ #[t,u] ty #[.slice ad n c,.string ⟨#[]⟩]).run P w= .ok (.slice ad n c) w:=by
 have hf:=Lib.run_firstCells_string (P:=P) w 1 ⟨#[]⟩;have hm:(⟨#[]⟩:ByteArray).size=0:=rfl;rw[hm] at hf;cases ad<;>simp [Builtin.append_,aSK ht,aSK hu,sizeOf,typeInfo,hi,hsize,Builtin.lenOf,hm,hf,hle,Lib.strCells,storeCells]
theorem aAK (g:Gh) (w:q9): ∀s:pM,tT (Rd g w (.int .u8)) 1 (uP s) (s.map fun b=>Value.int .u8 b.toNat)
 |[]=>rfl
 |b::s=>⟨[.int .u8 b.toNat],_,rfl,rfl,rfl,aAK g w s⟩
section
variable {P:Program}{o:Oper}{a:Act}{g:Gh}{w:q9}{H:s7}{T:sS}(hT:xA P T) (hH:sE g w H)
include hT hH
theorem aJK {t t':TypeId}{x:Operand}(ho:o.op= .convert t t' x) {sx:qM}(hx:rO g w sx (a.eval x)) {e:qS}
  (hr:AK (YR T (rR T t) (rR T t') sx)=some e):rH P o a g w H e:=by
 obtain⟨q,hq,rfl⟩:=IJ hr;replace hx:=hx.1;generalize h1:rR T t=o1 at hq;generalize h2:rR T t'=o2 at hq;unfold YR at hq;split at hq
 .rename_i e b1 a1 l1 e2 b2 a2 l2 l k;generalize h3:rR T e=o3 at hq;unfold a8M at hq;split at hq
  .cases hq;have d1:=(sZ hT h1).2;have d2:=(sZ hT h2).2;have d3:=(sZ hT h3).2;simp only[x9] at d1 d2 d3;obtain⟨ad,cap,hv,hle,hl⟩:=DT hx;refine rH.pure hH (v:= .string ⟨(tD l).toArray⟩) ?_ (DB _ _ _);simp only[execOp,ho,hv,aSz];have run:(convert t t' (.slice ad (List.length l) cap)).run P w= .ok (.string ⟨(tD l).toArray⟩) w:=by
    rcases hl with rfl|⟨b,off,rfl,hL⟩
    .rw[run_convert_bytes_string w t t' e ad _ cap d1.1 d3 d2];cases ad with
     |none=>simp [Conv.bytesToString,tD];rfl
     |some ad=>simp [Conv.bytesToString,loadCells,loadCellsFrom,tD];rfl
    have:=run_convert_bytes_arg (P:=P) w t e d1.1 d3 b off (List.length l) cap l rfl (fun i hi=>by
     obtain⟨cs,_,c2,_,c4⟩:=NE hL (aSv hi);have c5:cs=[.int .u8 (l[i]:Int)]:=c4;subst c5;have:=c2 0 _ rfl;have hcell:Ty.cells (.int .u8)=1:=rfl;rw[hcell,aUd,aTv] at this;rw[this,aSO,aSv hi];rfl) t' d2
    exact this
   rw[run];rfl
  cases hq
 cases hq
theorem aJL {args:Array Operand}{tys:Array TypeId}(ho:o.op= .call ⟨.builtin .append,args,tys⟩) {ρ:Operand->qM}(hρ: ∀x∈args.toList,rO g w (ρ x) (a.eval x)) {e:qS}
  (hr:U9 T H (vN ρ args.toList) tys.toList=some e) (hs: ∀p∈e.side,p):rH P o a g w H e:=by
 unfold U9 at hr;split at hr
 .rename_i t u htu;have htys:tys= #[t,u]:=by apply aTt.1;rw[htu]
  split at hr
  .rename_i e1;subst e1;exact aI4 hT hH ho hρ htys hr hs
  clear htu;subst htys;generalize hst:rR T t=ot at hr;generalize hsu:rR T u=ou at hr;generalize hss:vN ρ args.toList=ss at hr;unfold ZW at hr;split at hr
  .rename_i el ar ls_ e2 b2 a2 ls2 l k s k2;generalize hk:qO H k=ob at hr;unfold U8 at hr;split at hr
   .rename_i e' c n;split at hr
    .rename_i hec;obtain⟨rfl,rfl⟩:=hec;cases hr;rw[aSp];have hsl:List.length (uP s)=List.length s:=by simp [uP]
     rw[hsl];have hln:=hs _ (by simp:(List.length l=n)∈_);have hby:=hs _ (by simp:(List.length l+List.length s<=140737488355328)∈_);obtain⟨v,vr,hv,hs1,hs2⟩:=UW hT hH hρ hss;obtain⟨h2,h3,_⟩:=(sZ hT hst).2;have hu:=(sZ hT hsu).2;simp only[x9] at hu;obtain⟨ei,hei,hz⟩:=aSE.1 h3;simp only[aSQ] at hz;obtain⟨cs,hx⟩:=GL (a:=a) hT hH ho;obtain⟨v0,xs,hv0,hown,hnone,hseal⟩:=hH.blk k _ hk;have hcur:g.cur k (List.length l)=some v:=hs1.2;rw[hln,hv0] at hcur;obtain rfl:=aSr hcur;obtain⟨adl,capl,hvl,hlel,hll⟩:=DT hs1.1;have hvr:=wI hs2.1;have hsz:(⟨List.toArray s⟩:ByteArray).size=List.length s:=by simp [ByteArray.size]
     by_cases hm:List.length s=0
     .obtain rfl:s=[]:=aSS hm;have hget: ∀i,qO (r6 [(k,qJ.grow e' 1 (List.length l+List.length ([]:pM)))] H) i=qO H i:=by
       intro i;simp only[r6,qO];by_cases hi:k=i
       .subst hi;rw[aSn rfl,hk,hln];rfl
       rw[aSo hi]
      have hkeep:rL g w H ⟨[List.length l=n,List.length l+List.length ([]:pM)<=140737488355328],(.val (.list (.int .u8)) (l++uP []),some k),[(k,.grow e' 1 (List.length l+List.length ([]:pM)))],[k]⟩ g w v0:=by
       refine⟨.refl _ _,?_,⟨fun i b h=>hH.blk i b ((hget i).symm.trans h),fun i j bi bj b o' hij h1 h2=>hH.dis i j bi bj b o' hij ((hget i).symm.trans h1) ((hget j).symm.trans h2),hH.sl,hH.tab.1,fun i blk b o' h ho'=>hH.tab.2 i blk b o' ((hget i).symm.trans h) ho'⟩,.refl _ _ _,fun i blk b o' hi hg ho'=> .inr ⟨i,blk,hi,(hget i).symm.trans hg,ho'⟩,fun _ _=>⟨rfl,rfl⟩,fun i u' y us h=> .inl ⟨y,us,(hget i).symm.trans h⟩⟩;rw[show l++uP []=l from by simp [uP]];exact hs1
      refine rH.value (v:=v0) (w':=w) ?_ hkeep;rw[hx,hv,hvr,hvl];have:=aJJ (P:=P) w t u o.type e' ei h2 hu hei (by rw[hz.1];rfl) adl (List.length l) capl hlel;simp only[builtin,aSz];rw[this];simp only[aSu,aSN]
     have hxs:tT (Rd g w (.int .u8)) 1 l xs:=by
      by_cases h0:List.length l=0
      .obtain rfl:l=[]:=aSS h0;have:xs=[]:=aSS (by rw[hown.1,<-hln];simp);exact this
      rcases hll with rfl|⟨b0,off0,rfl,hL0⟩
      .exact absurd rfl h0
      obtain⟨ls,hF0,hra0,_⟩:=QD hL0;rcases hown.2 with⟨e1,e2⟩ |⟨q,cap,cur,e1,e2⟩
      .exact absurd (hln.trans e2) h0
      rw[hvl] at e1;simp only[aT3,aSm,Addr.mk.injEq] at e1;obtain⟨⟨rfl,rfl,_⟩,_,rfl⟩:=e1;have hvn:v0= .slice (some ⟨b0,0,none⟩) n capl:=by rw[hvl,hln]
      have hrx:=a0G (hvn▸hown);have:ls=xs:=by
       have hl1:=KW hF0;have hl2:=hown.1;have hc1:Ty.cells (.int .u8)=1:=rfl;rw[hc1] at hl1;apply List.ext_getElem?;intro j;by_cases hj:j<ls.length
       .have h1:=hra0 j ls[j] (aSv hj);have hj':j<xs.length:=by rw[hl2,<-hln,<-hl1];exact hj
        have h2:=hrx j xs[j] (aSv hj');rw[h1] at h2;rw[aSv hj,aSv hj',aSr h2]
       rw[aTM pQ,aTM (by rw[hl2,<-hln,<-hl1];omega)]
      rw[<-this];exact hF0
     obtain⟨q,cap,w',hrun,hown',hq,hg,hcap,hcell⟩:=aJI (P:=P) w t u o.type e' ei h2 hu hei hz.2.2 hz.1 hz.2.1 v0 n xs hown ⟨List.toArray s⟩ (by rw[hsz];omega) (by rw[hsz];unfold maxLen;omega) (by rw[hsz];omega);rw[hsz] at hrun hown' hcap;rw[aJH] at hown';refine rH.value (v:= .slice (some ⟨q,0,none⟩) (n+List.length s) cap) (w':=w') ?_ (by
      have:=rL.append (side:=[List.length l=n,List.length l+List.length s<=140737488355328]) (rds:=[k]) (u:= .int .u8) (r:=uP s) hH hk (show (1:Nat)=Ty.cells (.int .u8) from rfl) hln hv0 hown hnone hseal hxs (aAK g w s) (by rw[hsl];omega) (by rw[hsl];exact hown') hq hg (by rw[hsl];exact hcap) hcell;rw[hsl] at this;rw[hln];rw[hln] at this;exact this)
     rw[hx,hv,hvr];simp only[builtin,aSz,hrun,aSu,aSN]
    cases hr
   cases hr
  cases hr
 cases hr
end
theorem aJM {g g':Gh}{w:q9}{f:qM→qM}(hf: ∀s u,rO g w s u→rO g' w (f s) u): ∀{l:List qM}{v:qB}{s:qM},QG g w l v→MZ (l.map f)=some s→rO g' w s v:=by
  have un: ∀{l:List qM}{vs:pX}{q},vH g w l vs→G9 (l.map f)=some q→IH g' w q vs:=by
    intro l
    induction l with
    | nil=>
      intro vs q h hq;simp only[List.map_nil,G9,aSm] at hq;subst hq;exact h
    | cons s l ih=>
      rintro vs q ⟨v,vs',rfl,h1,h2⟩ hq;have h1':=hf s v h1;simp only[aTw] at hq;generalize f s=fs at hq h1';obtain⟨d,k⟩:=fs;cases d with
      | val t x=>
        simp only[G9] at hq;obtain⟨q',hq',rfl⟩:=aSE.1 hq;refine⟨v,vs',rfl,h1'.1,?_,ih h2 hq'⟩;cases k with
        |none=>trivial
        |some k=>exact h1'.2
      | own k' n=>
        simp only[G9] at hq;obtain⟨q',hq',rfl⟩:=aSE.1 hq;exact⟨v,vs',rfl,.inr ⟨rfl,v,h1'.1.1,rfl,h1'.1.2⟩,trivial,ih h2 hq'⟩
      |_=>simp [G9] at hq
  intro l v s h hs
  match l,h,hs with
  | [],⟨vs,e,h⟩,hs=>
    simp only[List.map_nil,MZ,aSm] at hs;subst hs;rw[show vs=[] from h] at e;exact⟨⟨[],e,rfl⟩,trivial⟩
  | [x],h,hs=>
    simp only[aTw,List.map_nil,MZ,aSm] at hs;subst hs;exact hf x v h
  | x::y::l,⟨vs,e,h⟩,hs=>
    simp only[aTw,MZ,aSm] at hs;subst hs;cases hq:G9 (f x::f y::l.map f) with
    |none=>exact⟨trivial,trivial⟩
    |some q=>exact⟨⟨vs,e,un (l:=x::y::l) h (by simpa using hq)⟩,trivial⟩
theorem aAL {base n:Nat}{W:List rP}: ∀l:List qM,PI base n W l=l.map (T5 base n W)
  |[]=>rfl
  |s::l=>by simp [PI,aAL l]
theorem aAM {P:Program}{f:FuncId}{sg:rK}(hcon:wP P f sg.C) {g:Gh}{w:q9}{H:s7}(hH:sE g w H) {args:List qM}{vals:pX}(hargs:vH g w args vals) {base:Nat}{e:qS}
    (hr:GA H base args (some sg)=some e) (hs: ∀p∈e.side,p) (hfr:xV g base e):Calls P f vals.toArray w (fun en w'=> ∃v g',en= .returned v∧rL g w H e g' w' v):=by
  simp only[GA] at hr;cases hp0:xP H sg.ps args (some ⟨[],[],[],0⟩) with
  |none=>rw[hp0] at hr;cases hgs:sg.gs<;>(rw[hgs] at hr;simp [PJ,BJ] at hr)
  |some q0=>
   rw[hp0] at hr;cases hp:BJ H sg.gs (some q0) with
   |none=>rw[hp] at hr;simp [PJ] at hr
   |some q=>
    rw[hp] at hr;simp only[PJ,aAA,List.append_nil] at hr;have hpo0:=aAv hH (BU.nil g w H) hargs hp0;rw[List.nil_append] at hpo0;have hpo:=aAx hH hpo0 hp;cases hcl:I6 q.ws.reverse q.H.reverse with
    |none=>rw[hcl] at hr;simp [T8] at hr
    |some L=>
    rw[hcl] at hr;simp only[T8] at hr;have hm:=hpo.m.ren hcl;cases hc:sg.C q.args.reverse L with
    |none=>rw[hc] at hr;simp [T7] at hr
    | some r=>
      rw[hc] at hr;simp only[T7,aAz] at hr;cases hbh:BL base r.H.length q.ws.reverse 0 q.ws.reverse r.H with
      |none=>rw[hbh] at hr;simp [PH] at hr
      | some upd=>
        rw[hbh] at hr;cases hrs:MZ (PI base r.H.length q.ws.reverse r.ret) with
        |none=>rw[hrs] at hr;simp [PH] at hr
        | some s=>
          rw[hrs] at hr;simp only[PH,aSm] at hr;subst hr;refine(hcon.2 (uR g q.ws.reverse) w q.args.reverse _ L r (aJm hH hm) hpo.args hc hs).mono ?_;rintro en w' ⟨v,g',rfl,hret⟩;refine⟨v,_,rfl,aJC hH hm hret hbh hfr ?_⟩;rw[aAL] at hrs;exact aJM (fun s u h=>aJA hH hm hret hbh hfr h) hret.ret hrs
theorem L8 {g g':Gh}{w w':q9}: ∀{t:Ty}{x:t.den}{cs:pX},GB t=true→Rd g w t x cs→Rd g' w' t x cs
  | .bool,_,_,_,r=>r
  | .int _,_,_,_,r=>r
  | .str,_,_,_,r=>r
  | .unit,_,_,_,r=>r
  | .fn,_,_,_,r=>r
  | .pair a b,_,_,h,⟨c1,c2,e,r1,r2⟩=>by
    simp only[GB,aSA] at h;exact⟨c1,c2,e,L8 h.1 r1,L8 h.2 r2⟩
  | .list _,_,_,h,_=>by cases h
  | .ref,_,_,h,_=>by cases h
  | .clo,_,_,h,_=>by cases h
  | .mp,_,_,h,_=>by cases h
  | .rl _ _,_,_,h,_=>by cases h
  | .mref,_,_,h,_=>by cases h
  | .ap,_,_,h,_=>by cases h
theorem aAN {g g':Gh}{w:q9}{k n:Nat}{t:Ty}{l:List t.den}(le:Le g w g' w) (hk: ∀u,g.cur k n=some u→((u= .slice none 0 0∧n=0)∨∃b cap,u= .slice (some ⟨b,0,none⟩) n cap∧n≤cap)→tB g' w (.list t) l u):
    ∀{args:List qM}{vals:pX},vH g w args vals→(∀p∈KC k n args,p)→vH g' w (PM k t l args) vals
  |[],_,h,_=>h
  | s::ss,_,⟨v,vs,rfl,h1,h2⟩,hp=>by
    refine⟨v,vs,rfl,?_,aAN le hk h2 (fun p hp'=>hp p ?_)⟩
    · obtain⟨d,x⟩:=s
      cases d with
      | own j m=>
        simp only[a8X];split
        · rename_i e
          subst e;have hm:m=n:=hp (j=j→m=n) (by simp only[KC];exact aSH) rfl;subst hm;exact⟨hk _ h1.1.1 h1.1.2,trivial⟩
        .exact DA le h1
      |_=>exact DA le h1
    obtain⟨d,x⟩:=s
    cases d with
    |own j m=>simp only[KC];exact aSy _ hp'
    |_=>exact hp'
theorem aAO {g g':Gh}{w w':q9}: ∀{l:List ((Σ t:Ty,t.den)×pZ)}{vs:pX},T9 l=true→IH g w l vs→IH g' w' (YV l) vs
  |[],_,_,h=>h
  | (⟨t,x⟩,k)::l,vs,hn,⟨v,vs',e,h1,h2,h3⟩=>by
    simp only[T9,aSA] at hn;exact⟨v,vs',e,h1.imp (fun⟨a,cs,e,q⟩=>⟨a,cs,e,L8 hn.1 q⟩) (fun⟨a,q⟩=>⟨a,L8 hn.1 q⟩),trivial,aAO hn.2 h3⟩
theorem aJN {g g':Gh}{w w':q9}{s s':qM}{v:qB}(h:TA s=some s') (hr:rO g w s v):rO g' w' s' v:=by
  unfold TA at h;split at h
  · split at h
    · rename_i hn
      cases h;exact⟨hr.1.imp (fun⟨a,cs,e,q⟩=>⟨a,cs,e,L8 hn q⟩) (fun⟨a,q⟩=>⟨a,L8 hn q⟩),trivial⟩
    cases h
  · split at h
    · rename_i hn
      cases h;obtain⟨vs,e,q⟩:=hr.1;exact⟨⟨vs,e,aAO hn q⟩,trivial⟩
    cases h
  cases h
theorem aJO {P:Program}{f:FuncId}{sg:rK}(hcon:wP P f sg.C) {g:Gh}{w:q9}{H:s7}(hH:sE g w H) {args:List qM}{vals:pX}(hargs:vH g w args vals) {base:Nat}{e:qS}{k:Nat}
    (hr:PN H base args sg k (qO H k)=some e) (hs: ∀p∈e.side,p) (hfr:xV g base e):Calls P f vals.toArray w (fun en w'=> ∃v g',en= .returned v∧rL g w H e g' w' v):=by
  cases hk:qO H k with
  |none=>rw[hk] at hr;cases hr
  | some b=>
    rw[hk] at hr;cases b with
    | row e0 t l m=>
      simp only[PN] at hr;cases hi:GA ((k,.dead)::H) base (PM k t l args) (some sg) with
      |none=>rw[hi] at hr;cases hr
      | some e1=>
        rw[hi] at hr;obtain⟨side,s0,U,rds⟩:=e1;simp only[YX] at hr;cases hsl:TA s0 with
        |none=>rw[hsl] at hr;cases hr
        | some s1=>
          rw[hsl] at hr;simp only[YW] at hr;split at hr
          · rename_i hnl
            simp only[aSA,aSR] at hnl;obtain⟨hU,hkU⟩:=hnl;have hkU':k∉qQ U:=fun h=>by rw[GN.2 h] at hkU;cases hkU
            cases hr;obtain⟨hl,v,xs,hv,hown,hF,hnone,hseal⟩:=hH.blk k _ hk
            let g':Gh:={g with S:=fun b o=>g.S b o∨(v.ownBlock=some b∧o<m*t.cells)}
            have le:Le g w g' w:=⟨fun _ _ h=> .inl h,fun _ _ _=>rfl,fun _ _ h=>h,fun _ _ _ h=>h⟩;have hown2: ∀b,v.ownBlock=some b→∀o,s9 g k (.row e0 t l m) b o:=fun b hb o=>⟨v,hv,hb⟩
            have hlist: ∀u,g.cur k m=some u→((u= .slice none 0 0∧m=0)∨∃b cap,u= .slice (some ⟨b,0,none⟩) m cap∧m≤cap)→tB g' w (.list t) l u:=by
              intro u hu hshape;rw[hv] at hu;obtain rfl:=aSr hu;rcases hshape with⟨rfl,h0⟩ |⟨b,cap,rfl,hcap⟩
              · have:l=[]:=aSS (by rw[hl,h0])
                subst this;exact .inr ⟨rfl,none,0,rfl,aSJ _,.inl rfl⟩
              refine .inr ⟨rfl,some ⟨b,0,none⟩,cap,by rw[hl],by rw[hl];exact hcap,.inr ⟨b,0,rfl,IK (CH (fun _ _ h=>wE le h) hF) (fun j u hu=>?_) (fun j hj=>?_)⟩⟩
              · have:=hown.cells (g:=b) rfl j u hu
                rwa [aTA] at this
              right
              exact⟨rfl,by rw[hl] at hj;omega⟩
            have hget: ∀i b,qO ((k,qJ.dead)::H) i=some b→(i=k∧b= .dead)∨(i≠k∧qO H i=some b):=by
              intro i b hb;simp only[qO] at hb;split at hb
              .rename_i e1;exact .inl ⟨e1.symm,(aSr hb).symm⟩
              rename_i e1;exact .inr ⟨Ne.symm e1,hb⟩
            have hH':sE g' w ((k,qJ.dead)::H):=by
              refine⟨fun i b hb=>?_,fun i j bi bj b o hij h1 h2 o1 o2=>?_,fun b o hS=>?_,hH.tab.1,fun i b bb oo hb ho=>?_⟩
              · rcases hget i b hb with⟨rfl,rfl⟩ |⟨hne,h1⟩
                .trivial
                exact II (hH.blk i b h1) le rfl rfl (fun _ _ _=>⟨rfl,rfl⟩) (fun _ _=>rfl) (fun bb o ho hS=>by
                   rcases hS with hS|hS
                   .exact hS
                   exact absurd (hown2 bb hS.1 o) (fun h5=>hH.dis i k b _ bb o hne h1 hk ho h5)) (fun _ _ _ _ h=>h)
              · rcases hget i bi h1 with⟨_,rfl⟩ |⟨_,h1⟩
                .exact o1.elim
                rcases hget j bj h2 with⟨_,rfl⟩ |⟨_,h2⟩
                .exact o2.elim
                exact hH.dis i j bi bj b o hij h1 h2 ((x8 (g':=g') (g:=g) rfl rfl).1 o1) ((x8 (g':=g') (g:=g) rfl rfl).1 o2)
              · rcases hS with hS|hS
                .exact hH.sl b o hS
                exact KX hown hS.1
              rcases hget i b hb with⟨_,rfl⟩ |⟨_,h1⟩
              .exact ho.elim
              exact hH.tab.2 i b bb oo h1 ((x8 (g':=g') (g:=g) rfl rfl).1 ho)
            have hsp: ∀p,p∈KC k m args∨p∈side→p:=fun p hp=>hs p (GK.2 hp)
            have hget2: ∀i,i≠k→qO ((k,qJ.dead)::H) i=qO H i:=fun i hi=>by
              simp only[qO];rw[aSo (Ne.symm hi)]
            have hin: ∀{i},i∈qQ U→i≠k:=fun h e=>hkU' (e▸h)
            have hup: ∀{i blk},i∈qQ U→qO (r6 U H) i=some blk→qO (r6 U ((k,qJ.dead)::H)) i=some blk:=by
              intro i blk hi h
              have: ∀{U:List (Nat×qJ)},i∈qQ U→qO (r6 U ((k,qJ.dead)::H)) i=qO (r6 U H) i:=by
                intro U
                induction U with
                |nil=>intro h;cases h
                | cons q U ih=>
                  intro h;obtain⟨j,b⟩:=q;simp only[r6,qO];split
                  .rfl
                  rename_i hne
                  simp only[qQ,aSC] at h;exact ih (h.resolve_left (fun e=>hne e.symm))
              rw[this hi];exact h
            have hcells: ∀{i blk},i∈qQ U→qO (r6 U H) i=some blk→∃t y,blk= .cells t y []∧GB t=true:=by
              intro i blk hi h
              have: ∀{U:List (Nat×qJ)},N0 U=true→i∈qQ U→qO (r6 U H) i=some blk→∃t y,blk= .cells t y []∧GB t=true:=by
                intro U
                induction U with
                |nil=>intro _ h;cases h
                | cons q U ih=>
                  intro hU hi h;obtain⟨j,b⟩:=q;cases b with
                  | cells t y ts=>
                    cases ts with
                    |cons _ _=>simp [N0] at hU
                    | nil=>
                      simp only[N0,aSA] at hU;simp only[r6,qO] at h;split at h
                      · obtain rfl:=aSr h
                        exact⟨t,y,rfl,hU.1⟩
                      · rename_i hne
                        simp only[qQ,aSC] at hi;exact ih hU.2 (hi.resolve_left (fun e=>hne e.symm)) h
                  |_=>simp [N0] at hU
              exact this hU hi h
            have hownI: ∀b o,sU g' ((k,qJ.dead)::H) (qQ U) b o→sU g H (qQ U) b o:=fun b o ⟨i,blk,hi,h1,h2⟩=>⟨i,blk,hi,(hget2 i (hin hi)).symm.trans h1,(x8 (g':=g') (g:=g) rfl rfl).1 h2⟩;refine(aAM hcon hH' (aAN le hlist hargs (fun p hp=>hsp p (.inl hp))) hi (fun p hp=>hsp p (.inr hp)) (fun i hi' hb=>hfr i hi' hb)).mono ?_;rintro en w' ⟨v1,g1,rfl,hE⟩
            let g2:Gh:={g1 with S:=g.S}
            have hle:Le g w g2 w':=⟨fun _ _ h=>h,fun b o h=>hE.le.cell b o (.inl h),fun i p h=>hE.le.J i p h,fun i n u h=>hE.le.cur i n u h⟩
            have hfr2:Fr (sU g H (qQ U)) w w' g.S g2.S:=
              ⟨hE.fr.os,hE.fr.tape,hE.fr.output,hE.fr.size,fun b hb hno=>hE.fr.blk b hb (fun o h=>hno o (hownI b o h)),fun b o hb hno=>hE.fr.cell b o hb (fun h=>hno (hownI b o h)),fun _ _ h=> .inl h,fun b s h=>(hE.fr.shape b s h).imp id fun h o=>hownI b o (h o)⟩
            have hgho: ∀i,i∉qQ U→g2.J i=g.J i∧g2.cur i=g.cur i:=fun i hi=>hE.gho i hi
            have hperm: ∀i blk b o,i∈qQ U→qO (r6 U H) i=some blk→s9 g2 i blk b o→w.heap.size≤b∨sU g H (qQ U) b o:=fun i blk b o hi hg ho=>
              (hE.perm i blk b o hi (hup hi hg) ((x8 (g':=g2) (g:=g1) rfl rfl).1 ho)).imp id (hownI b o)
            refine⟨v1,g2,rfl,hle,?_,hH.upd hle hfr2 hperm hgho (fun i blk hi hg=>?_) (fun i j bi bj b o hi hj hij hgi hgj hoi hoj=>?_) (fun b o h=>aSY (hH.sl b o h) hE.fr.size),hfr2,hperm,hgho,fun i u y us h=>?_⟩
            .exact aJN hsl hE.slot
            · obtain⟨t2,y2,rfl,hn2⟩:=hcells hi hg
              obtain⟨p,cs,q1,q2,q3,q4,q5,_⟩:=hE.heap.blk i _ (hup hi hg);exact⟨p,cs,q1,L8 hn2 q2,q3,q4,fun j hj hS=>q5 j hj (hE.le.S _ _ (.inl hS)),fun _ _ hm=>by cases hm⟩
            .exact hE.heap.dis i j bi bj b o hij (hup hi hgi) (hup hj hgj) ((x8 (g':=g2) (g:=g1) rfl rfl).1 hoi) ((x8 (g':=g2) (g:=g1) rfl rfl).1 hoj)
            by_cases hiU:i∈qQ U
            · rcases hE.ty i u y us (hup hiU h) with⟨x',ts',q⟩ |q
              .exact .inl ⟨x',ts',(hget2 i (hin hiU)).symm.trans q⟩
              exact .inr q
            exact .inl ⟨y,us,(A3 hiU).symm.trans h⟩
          .cases hr
    |_=>cases hr
theorem aJP {P:Program}{f:FuncId}{F:(t:Ty)→List t.den→Option (List t.den)}(hF:V4 P f F) {g:Gh}{w:q9}{H:s7}(hH:sE g w H) {args:List qM}{vals:pX}(hargs:vH g w args vals) {e:qS}
    (hr:TB H F args=some e) (hs: ∀p∈e.side,p):Calls P f vals.toArray w (fun en w'=> ∃v g',en= .returned v∧rL g w H e g' w' v):=by
  unfold TB at hr;split at hr
  · rename_i k n x
    obtain⟨v,vs,rfl,ha,hv⟩:=hargs;rw[show vs=[] from hv];cases hk:qO H k with
    |none=>rw[hk] at hr;cases hr
    | some b=>
      rw[hk] at hr;cases b with
      | row e0 t l m=>
        simp only[YY] at hr;cases hf:F t l with
        |none=>rw[hf] at hr;cases hr
        | some l'=>
          rw[hf] at hr;cases hr;have hnm:n=m:=hs _ aSH;subst hnm;obtain⟨hl,v0,xs,hv0,hown,hFx,hnone,hseal⟩:=hH.blk k _ hk;have h1:=ha.1.1;rw[hv0] at h1;obtain rfl:=aSr h1;refine(hF g w e0 t l l' v0 n xs hH.tab.1 hown hFx hl (hs _ pS) hf).mono ?_;rintro en w' ⟨rfl,hl',xs',k1,k2,k3⟩;have hownk: ∀b,v0.ownBlock=some b→∀o,sU g H [k] b o:=fun b hb o=>⟨k,_,by simp,hk,v0,hv0,hb⟩;refine⟨_,_,rfl,rL.row (v:=v0) (xs:=xs') hH hl' k1 k2 hnone (fun u hu=>by rw[hv0] at hu;exact(aSr hu).symm) (.inr ⟨v0.ownBlock,k3,hownk⟩) (fun b o hS=>?_) hseal (fun b hb=> .inr (hownk b hb)) ⟨⟨[],rfl,rfl⟩,trivial⟩⟩;have hne:v0.ownBlock≠some b:=fun e=>hseal b e o hS;exact aSL (a:=⟨b,o,none⟩) (k3.block b (hH.sl b o hS) (fun e=>hne e.symm))
      |_=>cases hr
  cases hr
section
variable {P:Program}{o:Oper}{a:Act}{g:Gh}{w:q9}{H:s7}{T:sS}{Γ:tC}(hT:xA P T) (hΓ:DW P Γ) (hH:sE g w H)
include hT hΓ hH
theorem aAP {f:FuncId}{args:List qM}{vals:pX}(hargs:vH g w args vals) {base:Nat}{e:qS}(hr:KI H base args (I9 Γ f)=some e) (hs: ∀p∈e.side,p) (hfr:xV g base e):
    (∀args w,(callFunc f args).run P w= .ok (.enter f args) w)∧Calls P f vals.toArray w (fun en w'=> ∃v g',en= .returned v∧rL g w H e g' w' v):=by
  cases hg:I9 Γ f with
  |none=>rw[hg] at hr;cases hr
  | some sg=>
    rw[hg] at hr
    obtain⟨hlt,hg⟩:f<1000000000∧Γ f=some sg:=by
      unfold I9 at hg;split at hg
      .rename_i h;exact⟨h,hg⟩
      cases hg
    obtain⟨hcon,hrow⟩:=hΓ f sg hlt hg;refine⟨hcon.1,?_⟩;simp only[KI] at hr;cases hF:sg.row with
    | some F=>
      rw[hF] at hr;exact aJP (hrow F hF) hH hargs hr hs
    | none=>
      rw[hF] at hr;simp only[U6] at hr;cases hn:PL sg.ps args with
      | some k=>
        rw[hn] at hr;exact aJO hcon hH hargs hr hs hfr
      | none=>
        rw[hn] at hr;exact aAM hcon hH hargs hr hs hfr
theorem aAQ {fop:Operand}{args:Array Operand}{tys:Array TypeId}(ho:o.op= .call ⟨.value fop,args,tys⟩) {ρ:Operand→qM}(hf:rO g w (ρ fop) (a.eval fop)) (hρ: ∀x∈args.toList,rO g w (ρ x) (a.eval x)) {base:Nat}{e:qS}
    (hr:KJ Γ H base (BP T ρ args.toList tys.toList) (ρ fop)=some e) (hs: ∀p∈e.side,p) (hfr:xV g base e) (hlen:args.size=tys.size):rH P o a g w H e:=by
  have hargs:=V6 (a:=a) (ρ:=ρ) hT hΓ hH (xs:=args.toList) (ts:=tys.toList) (by simpa using hlen) hρ;unfold KJ at hr;split at hr
  · rename_i f caps k heq
    rw[heq] at hf
    obtain⟨vs,hcv,hfv⟩: ∃vs,yD g caps vs∧a.eval fop= .func (.func f) #[] vs.toArray:=by
      rcases hf.1 with⟨h1,_⟩ |⟨_,vs,h2,h3⟩
      .cases h1
      simp only[aS8,and_true] at h3
      exact⟨vs,h2,h3⟩
    obtain⟨hen,hc⟩:=aAP hT hΓ hH (aJf hT hΓ hH hargs (aAi hT hΓ hH hcv)) hr hs hfr;intro K Q hK;refine V7 ho hfv hen (hc.mono ?_);rintro en w' ⟨v,g',rfl,hE⟩;exact⟨v,rfl,hK _ w' v hE.w⟩
  · rename_i f k heq
    rw[heq] at hf
    have hfv:a.eval fop= .func (.func f) #[] ([]:pX).toArray:=by
      rcases hf.1 with⟨h1,_⟩ |⟨_,h2⟩
      .cases h1
      simpa[Rd,UQ] using h2
    obtain⟨hen,hc⟩:=aAP hT hΓ hH hargs hr hs hfr;intro K Q hK;refine V7 ho hfv hen ?_;rw[List.append_nil];refine hc.mono ?_;rintro en w' ⟨v,g',rfl,hE⟩;exact⟨v,rfl,hK _ w' v hE.w⟩
  cases hr
theorem aJQ {fop:Operand}{args:Array Operand}{tys:Array TypeId}(ho:o.op= .call ⟨.value fop,args,tys⟩) {ρ:Operand→qM}(hf:a.eval fop= .func (.func I2) #[] #[]) (hρ: ∀x∈args.toList,rO g w (ρ x) (a.eval x)) {e:qS}
    (hr:ZX (BP T ρ args.toList tys.toList) (rR T K4)=some e) (hlen:args.size=tys.size):rH P o a g w H e:=by
  have hargs:=V6 (a:=a) (ρ:=ρ) hT hΓ hH (xs:=args.toList) (ts:=tys.toList) (by simpa using hlen) hρ;have hfv:a.eval fop= .func (.func I2) #[] ([]:pX).toArray:=hf
  have go: ∀{s:qM}{el by':Nat}{ar:Bool}{ls:List (Nat×TypeId×Nat)},BP T ρ args.toList tys.toList=[s]→rR T K4=some ⟨.ap,el,by',ar,ls⟩→(∀v,rO g w s v→∀g' w',Le g w g' w'→yO g' w' s.1 v)→(∀v,rO g w s v→∃p,v= .pointer p)→rH P o a g w H ⟨[],(.apd s.1,none),[],[]⟩:=by
    intro s el by' ar ls h1 h2 h3 h4;rw[h1] at hargs;obtain⟨v,vs,hv,hs,hvs⟩:=hargs;rw[show vs=[] from hvs] at hv;obtain⟨pp,rfl⟩:=h4 v hs;obtain⟨_,hmk,hen,_,_⟩:=(sZ hT h2).2;intro K Q hK;refine V7 ho hfv hen ?_;rw[List.append_nil,hv];refine(hmk w pp).mono ?_;rintro en w' ⟨b,rfl,hb,hb2,hc,hbel⟩;have e1:=rL.below hH hbel
    let g':Gh:={g with S:=fun q oo=>g.S q oo∨(q=b∧oo=0)}
    have le:Le g w' g' w':=⟨fun _ _ h=> .inl h,fun _ _ _=>rfl,fun _ _ h=>h,fun _ _ _ h=>h⟩
    have hno: ∀i blk,qO H i=some blk→∀oo,¬s9 g i blk b oo:=fun i blk h1 oo h2=>by
      have:=KY (hH.blk i blk h1) h2;omega
    have hH2:sE g' w' H:=by
      have h4:sE g w' H:=e1.heap;refine⟨fun i blk hg=>II (h4.blk i blk hg) le rfl rfl (fun _ _ _=>⟨rfl,rfl⟩) (fun _ _=>rfl) (fun q oo ho hS=>?_) (fun _ _ _ _ h=>h),fun i j bi bj q oo hij h5 h6 o1 o2=>h4.dis i j bi bj q oo hij h5 h6 ((x8 (g':=g') (g:=g) rfl rfl).1 o1) ((x8 (g':=g') (g:=g) rfl rfl).1 o2),fun q oo hS=>?_,h4.tab.1,fun i blk q oo hg ho=>h4.tab.2 i blk q oo hg ((x8 (g':=g') (g:=g) rfl rfl).1 ho)⟩
      · rcases hS with hS|⟨rfl,_⟩
        .exact hS
        exact absurd ho (hno i blk hg oo)
      rcases hS with hS|⟨rfl,_⟩
      .exact h4.sl q oo hS
      exact hb2
    have hle2:Le g w g' w':=e1.le.trans le;refine⟨_,rfl,hK g' w' _ (rL.w ⟨hle2,⟨⟨b,.pointer pp,rfl,.inr ⟨rfl,rfl⟩,hc,h3 _ hs g' w' hle2⟩,trivial⟩,hH2,⟨e1.fr.os,e1.fr.tape,e1.fr.output,e1.fr.size,e1.fr.blk,e1.fr.cell,fun q oo hS=>?_,e1.fr.shape⟩,fun _ _ _ _ hi=>(by cases hi),fun _ _=>⟨rfl,rfl⟩,fun _ _ y us h=> .inl ⟨y,us,h⟩⟩)⟩;rcases hS with hS|⟨rfl,_⟩
    .exact .inl hS
    exact .inr (.inl hb)
  unfold ZX at hr;split at hr
  · rename_i p k el by' ar ls h1 h2
    cases hr
    exact go h1 h2 (fun v hs g' w' hle=>Q6 hle hs.1) (fun v hs=>by
      rcases hs.1 with⟨h,_⟩ |⟨_,q,_,h⟩
      .cases h
      exact⟨_,(List.cons.inj h).1⟩)
  · rename_i k n c ix oo k2 el by' ar ls h1 h2
    cases hr
    exact go h1 h2 (fun v hs g' w' hle=>Q6 hle hs.1) (fun v hs=>by
      obtain⟨b,cap,_,_,_,h⟩:=hs.1;exact⟨_,h⟩)
  cases hr
omit hT hΓ hH in
theorem a09 {x:Nat×Nat}{o n:Nat}: ∀{ts:pV},x∈tH ts o n→x∈ts
  |[],h=>h
  | (q,k)::r,h=>by
    simp only[tH] at h;split at h
    .exact aSy _ (a09 h)
    rcases aSC.1 h with h|h
    .rw[h];exact aSH
    exact aSy _ (a09 h)
omit hT hΓ hH in
theorem aJR {v:Ty}: ∀{t:Ty}{x:t.den}{o:Nat}{y:pM}{l:(Ty.list v).den},r9 .str t x o=some y→r9 (.list v) t x o=some l→False:=by
  intro t
  induction t with
  | pair a b iha ihb=>
    intro x o y l h g
    have key: ∀{w:Ty}(hw:w.isRow=false),r9 w (.pair a b) x o=(if o<a.cells then r9 w a x.1 o else r9 w b x.2 (o-a.cells)):=by
      intro w hw;cases o with
      | zero=>
        conv=>lhs;unfold r9
        rw[aTP (by intro e;subst e;cases hw),Nat.zero_sub]
      |succ o=>simp [r9]
    rw[key rfl] at h g;split at h
    · rename_i ho
      rw[aSn ho] at g;exact iha h g
    · rename_i ho
      rw[aSo ho] at g;exact ihb h g
  | str=>
    intro x o y l h g;cases o with
    | zero=>
      unfold r9 at g;split at g
      .rename_i e;cases e
      .cases g
    |succ o=>simp [r9] at g
  | _=>
    intro x o y l h g;cases o with
    | zero=>
      unfold r9 at h;split at h
      .rename_i e;cases e
      .cases h
    |succ o=>simp [r9] at h
omit hT hΓ in
theorem aJS {i:Nat}{u:Ty}{x z:u.den}{y:pM}{toks0 toks:pV}{p:Pl}(hb:qO H i=some (.cells u x toks0)) (hp:g.J i=some p) (hsub: ∀x∈toks,x∈toks0) {o:Nat}(hg:r9 .str u x o=some y) (hset:sL .str y u x o=some z):
    rL g w H ⟨[],(.any,none),[(i,.cells u z toks)],[]⟩ g w undef:=by
  refine rL.reread hH hb hp hsub (fun cs hR _=>?_) (fun v q l hl=>V0 hH hset hl (fun⟨h1,h2⟩=>?_))
  · obtain⟨c1,c2,c3,rfl,rfl,hR2⟩:=BR hR hg
    have e2:c2=[.string ⟨y.toArray⟩]:=hR2;exact a0N hset (v:= .string ⟨y.toArray⟩) rfl hR (by rw[e2];simp)
  have:q=o:=by simp only[Ty.cells] at h2;omega
  subst this;exact aJR hg hl
omit hT hΓ in
theorem aAR {i:Nat}{u:Ty}{x z:u.den}{b:Bool}{y:pM}{ts:pV}{p:Pl}{o:Nat}(hb:qO H i=some (.cells u x ts)) (hp:g.J i=some p) (hset:N4 b y o (some x)=some z):
    rL g w H ⟨[],(.any,none),[(i,.cells u z (tH ts o 1))],[]⟩ g (if b=true then w.setCells p.1 (p.2+o) [.string ⟨y.toArray⟩] else w) undef:=by
  simp only[N4] at hset;cases hy:r9 .str u x o with
  |none=>rw[hy] at hset;cases hset
  | some y0=>
    rw[hy] at hset;simp only[a9h] at hset;cases b with
    | true=>
      rw[aSn rfl];exact(rL.store (side:=[]) (rds:=[]) (k:=none) (v:= .string ⟨y.toArray⟩) hH hb hp (t:= .str) hset (cy:=[.string ⟨y.toArray⟩]) rfl trivial (fun _ _ _=>rfl) (fun _=>rfl)).1
    | false=>
      rw[aSo pS];exact aJS hH hb hp (fun _ h=>a09 h) hy hset
omit hT hΓ in
theorem rL.again {k:Nat}{b:qJ}(hk:qO H k=some b):rL g w H ⟨[],(.any,none),[(k,b)],[]⟩ g w undef:=by
  refine rL.more (U:=[]) (sd:=[]) (r:=[]) (rL.pure hH ⟨trivial,trivial⟩) (fun i=>?_) (fun _ h=>by cases h);simp only[r6,qO];split
  .rename_i e;subst e;exact hk.symm
  rfl
omit hT hΓ in
theorem aAS {i:Nat}{u:Ty}{x:u.den}{y:pM}{ts:pV}{p:Pl}{o:Nat}(hb:qO H i=some (.cells u x ts)) (hp:g.J i=some p) (hy:r9 .str u x o=some y):w.cell? ⟨p.1,p.2+o,none⟩=some (.string ⟨y.toArray⟩)∧w.frozen? ⟨p.1,p.2+o,none⟩=false:=by
  obtain⟨p',cs,hp',hR,hra,hth,_,_⟩:=hH.blk i _ hb;rw[hp] at hp';obtain rfl:=aSr hp';have hl:=sV hR;obtain⟨c1,c2,c3,rfl,rfl,hR2⟩:=BR hR hy;have e2:c2=[.string ⟨y.toArray⟩]:=hR2;subst e2;simp only[aSp,aTr] at hl;exact⟨hra _ _ pS,(hth.1 _ pQ).2⟩
omit hT hΓ in
theorem aAT {k:Nat}{e:TypeId}{t:Ty}{l:List t.den}{m b cap j o':Nat}{x:t.den}{v:qB}(hk:qO H k=some (.row e t l m)) (hcur:g.cur k m=some (.slice (some ⟨b,0,none⟩) m cap)) (hx:l[j]? =some x) (hv: ∀cs,Rd g w t x cs→cs[o']? =some v) (ho:o'<t.cells):
    w.cell? ⟨b,j*t.cells+o',none⟩=some v∧w.frozen? ⟨b,j*t.cells+o',none⟩=false:=by
  obtain⟨hl,v0,xs,hv0,hown,hF,_,_⟩:=hH.blk k _ hk;rw[hcur] at hv0;obtain rfl:=aSr hv0;obtain⟨c1,c2,c3,e1,e2,e3,e4⟩:=UX hF hx
  have h1:=hown.cells (g:=b) rfl (j*t.cells+o') v (by
    rw[e1,aSB,aSw pQ,e2,aTb,aSG pQ];exact hv c2 e4)
  rw[aTA,aSU] at h1;rcases hown.2 with⟨h5,_⟩ |⟨q,cap',cur,h5,_,hg,_⟩
  .cases h5
  simp only[aT3,aSm,Addr.mk.injEq,and_true,true_and] at h5;obtain⟨rfl,rfl⟩:=h5;exact⟨h1,frozen_of_row w b _ cur e hg⟩
omit hT hΓ in
theorem aJT {k:Nat}{e:TypeId}{l:pN}{m:Nat}{b:Bool}{z:pM}(hk:qO H k=some (.row e .str l m)) {bb cap:Nat}(hc:b=true→g.cur k m=some (.slice (some ⟨bb,0,none⟩) m cap)∧0<m):
    ∃g',rL g w H ⟨[],(.any,none),[(k,.row e .str (F3 b z l) m)],[]⟩ g' (if b=true then w.setCells bb (m-1) [.string ⟨z.toArray⟩] else w) undef:=by
  cases b with
  | false=>
    rw[aSo pS];exact⟨g,rL.again hH hk⟩
  | true=>
    obtain⟨h1,h2⟩:=hc rfl;have hl:=(hH.blk k _ hk).1;rw[aSn rfl];have:=rL.poke (o':=0) (uT:= .str) (y:=z) (z':=z) (i:=((m-1:Nat):Int)) (u:= .string ⟨z.toArray⟩) hH hk h1 pQ pQ (by unfold sL;rw[aUm rfl];rfl) rfl;refine⟨g.tok k m (.slice (some ⟨bb,0,none⟩) m cap),?_⟩
    have e1:F3 true z l=l.set (((m-1:Nat):Int)).toNat z:=by
      unfold F3;rw[aSn rfl,aTi,hl]
    have e2:(((m-1:Nat):Int)).toNat*(Ty.str).cells+0=m-1:=by simp [Ty.cells]
    rw[e1];rw[e2] at this;exact this
omit hT hΓ in
theorem aJU {k:Nat}{e:TypeId}{l:List (pM×pM×Unit)}{m:Nat}{b:Bool}{z:pM}(hk:qO H k=some (.row e GF l m)) {bb cap:Nat}(hc:b=true→g.cur k m=some (.slice (some ⟨bb,0,none⟩) m cap)∧0<m):
    ∃g',rL g w H ⟨[],(.any,none),[(k,.row e GF (F4 b z l) m)],[]⟩ g' (if b=true then w.setCells bb ((m-1)*2+1) [.string ⟨z.toArray⟩] else w) undef:=by
  cases b with
  | false=>
    rw[aSo pS];exact⟨g,rL.again hH hk⟩
  | true=>
    obtain⟨h1,h2⟩:=hc rfl;have hl:List.length l=m:=(hH.blk k _ hk).1;rw[aSn rfl]
    have hn:qT GF l (((m-1:Nat):Int))=l.getD (l.length-1) ([],[],()):=by
      unfold qT;rw[aTi,hl];rfl
    have:=rL.poke (t:=GF) (l:=l) (o':=1) (uT:= .str) (y:=z) (z':=((l.getD (l.length-1) ([],[],())).1,z,())) (i:=((m-1:Nat):Int)) (u:= .string ⟨z.toArray⟩) hH hk h1 pQ pQ (by rw[hn];rfl) rfl;refine⟨g.tok k m (.slice (some ⟨bb,0,none⟩) m cap),?_⟩
    have e1:F4 true z l=List.set l (((m-1:Nat):Int)).toNat ((l.getD (l.length-1) ([],[],())).1,z,()):=by
      unfold F4;rw[aSn rfl,aTi,hl]
    have e2:(((m-1:Nat):Int)).toNat*GF.cells+1=(m-1)*2+1:=by simp [Ty.cells]
    rw[e1];rw[e2] at this;exact this
theorem aJV {fop:Operand}{args:Array Operand}{tys:Array TypeId}(ho:o.op= .call ⟨.value fop,args,tys⟩) {ρ:Operand→qM}{x:Nat×Nat×(Nat×Nat)×(Nat×Nat)}(hf:tB g w .ap x (a.eval fop)) (hρ: ∀x∈args.toList,rO g w (ρ x) (a.eval x)) {e:qS}
    (hr:KN Γ H x (BP T ρ args.toList tys.toList) (rR T K4)=some e) (hs: ∀p∈e.side,p) (hlen:args.size=tys.size):rH P o a g w H e:=by
  have hargs:=V6 (a:=a) (ρ:=ρ) hT hΓ hH (xs:=args.toList) (ts:=tys.toList) (by simpa using hlen) hρ;generalize hss:BP T ρ args.toList tys.toList=ss at hr hargs;generalize hst:rR T K4=ot at hr;unfold KN at hr;split at hr
  case h_2=>cases hr
  rename_i c i k3 n3 k4 n4 s kk el by' ar ls;obtain⟨v0,vs',hv,hs1,hvs⟩:=hargs;rw[show vs'=[] from hvs] at hv;have hv0:=wI hs1.1;obtain⟨_,_,_,hen,hap⟩:=(sZ hT hst).2;generalize hi:qO H i=oi at hr;generalize hne:a0c i k3 k4=ne at hr;unfold UA at hr;split at hr
  case h_2=>cases hr
  rename_i u xo ts;generalize h3:qO H k3=o3 at hr;generalize h4:qO H k4=o4 at hr;unfold a0b at hr;split at hr
  case h_2=>cases hr
  rename_i e3 l3 m3 e4 l4 m4;generalize hsg:I9 Γ G8=osg at hr;generalize hy1:r9 .str u xo 6=oy1 at hr;generalize hy2:r9 .str u xo 7=oy2 at hr;cases osg with
  |none=>cases hr
  |some sg=>
  cases oy1 with
  |none=>cases hr
  |some y1=>
  cases oy2 with
  |none=>cases hr
  |some y2=>
  simp only[a0a] at hr;generalize hy:KL c y1 y2 (F2 l3) (IA l4)=y at hr;generalize hC:sg.C [(.val .str (y++s),none)] []=oC at hr;unfold ZZ at hr;split at hr
  case h_2=>cases hr
  rename_i sd ok;generalize hx1:N4 (ok&&decide (c=1)) (y++s) 6 (some xo)=ox1 at hr;cases ox1 with
  |none=>cases hr
  |some x1=>
  generalize hx2:N4 (ok&&decide (c=2)) (y++s) 7 (some x1)=ox2 at hr;cases ox2 with
  |none=>cases hr
  |some x2=>
  simp only[ZY,aSm] at hr;subst hr;have hc0:c≠0:=hs _ pS;have hn3:n3=m3:=hs _ pS;have hn4:n4=m4:=hs _ pS;have hlz:((y++s).length:Int)≤9223372036854775807:=hs _ pS;have hsd: ∀p∈sd,p:=fun p hp=>hs p (by simp [hp]);subst hn3 hn4
  obtain⟨hik3,hik4,hk34⟩:i≠k3∧i≠k4∧k3≠k4:=by
    unfold a0c at hne;split at hne
    .cases hne
    split at hne
    .cases hne
    split at hne
    .cases hne
    exact⟨by assumption,by assumption,by assumption⟩
  rcases xB rfl hf with⟨h,_⟩ |⟨_,b,α,e1,hS,hcell,a1,a2,a3,a4⟩
  .exact absurd h hc0
  simp only[aS8,and_true] at e1;obtain⟨p,cs0,hp,_⟩:=hH.blk i _ hi
  have hα:w.cell? α=some (.string ⟨y.toArray⟩)∧w.frozen? α=false∧α.spot=none:=by
    by_cases c1:c=1
    · subst c1
      obtain⟨p',hp',rfl⟩:=a1 rfl;rw[hp] at hp';obtain rfl:=aSr hp';have:y=y1:=by rw[←hy];rfl
      subst this;have:=aAS hH hi hp hy1;exact⟨this.1,this.2,rfl⟩
    by_cases c2:c=2
    · subst c2
      obtain⟨p',hp',rfl⟩:=a2 rfl;rw[hp] at hp';obtain rfl:=aSr hp';have:y=y2:=by rw[←hy];rfl
      subst this;have:=aAS hH hi hp hy2;exact⟨this.1,this.2,rfl⟩
    by_cases c3:c=3
    · subst c3
      obtain⟨bb,cap,hcur,hpos,rfl⟩:=a3 rfl;have:y=F2 l3:=by rw[←hy];rfl
      subst this;have hl:List.length l3=n3:=(hH.blk k3 _ h3).1;have hlt:n3-1<l3.length:=by omega
      have hx:l3[n3-1]? =some (F2 l3):=by
        unfold F2;rw[aSO,hl,aSv hlt];rfl
      have:=aAT (o':=0) hH h3 hcur hx (fun cs hR=>by rw[show cs=[.string ⟨(F2 l3).toArray⟩] from hR];rfl) (by simp [Ty.cells]);simp only[Ty.cells,aUd,aTv] at this;exact⟨this.1,this.2,rfl⟩
    obtain⟨bb,cap,hcur,hpos,rfl⟩:=a4 pQ
    have:y=IA l4:=by
      rw[←hy];unfold KL;rw[aSo c1,aSo c2,aSo c3]
    subst this;have hl:List.length l4=n4:=(hH.blk k4 _ h4).1;have hlt:n4-1<List.length l4:=by omega
    have hx:l4[n4-1]? =some (l4.getD (l4.length-1) ([],[],())):=by
      rw[aSO,hl,aSv hlt];rfl
    have:=aAT (t:=GF) (o':=1) (v:= .string ⟨(IA l4).toArray⟩) hH h4 hcur hx (fun cs hR=>by
      obtain⟨d1,d2,rfl,r1,e1,e2,rfl,r2,r3⟩:=hR;rw[show d1=[_] from r1,show e1=[_] from r2];rfl) (by simp [Ty.cells])
    simp only[Ty.cells] at this;exact⟨this.1,this.2,rfl⟩
  have hval: ∀w1,Below w.heap.size w w1→Calls P G8 #[.string ⟨(y++s).toArray⟩] w1 fun e w'=>e= .returned (.bool ok)∧Below w1.heap.size w1 w':=by
    intro w1 hb1
    obtain⟨hlt,hg⟩:G8<1000000000∧Γ G8=some sg:=by
      unfold I9 at hsg;split at hsg
      .rename_i h;exact⟨h,hsg⟩
      cases hsg
    have hT1:EV w1:=I3 hH.tab.1 hb1.size (fun q hq=>hb1.block q (aSY hq hH.tab.1.1));have hH0:sE ⟨fun _ _=>False,fun _=>none,fun _ _=>none⟩ w1 (r8 0 []):=⟨fun _ _ h=>(by cases h),fun _ _ _ _ _ _ _ h=>(by cases h),fun _ _ h=>h.elim,⟨hT1,fun _ _ _ _ h=>(by cases h)⟩⟩;refine((hΓ G8 sg hlt hg).1.2 _ w1 [(.val .str (y++s),none)] [.string ⟨(y++s).toArray⟩] [] _ hH0 ⟨_,[],rfl,⟨.inr ⟨rfl,rfl⟩,trivial⟩,rfl⟩ hC hsd).mono ?_;rintro en w' ⟨v,g',rfl,r⟩;refine⟨by rw[vF r.ret.1],r.fr.os,r.fr.tape,r.fr.output,r.fr.size,fun q hq=>r.fr.blk q hq fun oo ⟨j,blk,h1,_⟩=>(by cases h1)⟩
  have key:=hap w b α y s ok hcell hα.1 hα.2.1 hα.2.2 hlz hval;intro K Q hK;refine V7 ho (caps:=[.pointer (some ⟨b,0,none⟩)]) (by rw[e1]) hen ?_;rw[hv,hv0];refine key.mono ?_;rintro en w' ⟨rfl,w1,hbel,hw'⟩;have E0:=rL.below hH hbel;have E1:=aAR (b:=ok&&decide (c=1)) (y:=y++s) (o:=6) E0.heap hi hp hx1;have hi1:qO (r6 [(i,qJ.cells u x1 (tH ts 6 1))] H) i=some (.cells u x1 (tH ts 6 1)):=by simp [r6,qO]
  have E2:=aAR (b:=ok&&decide (c=2)) (y:=y++s) (o:=7) E1.heap hi1 hp hx2
  have h3':qO (r6 [(i,qJ.cells u x2 (tH (tH ts 6 1) 7 1))] (r6 [(i,qJ.cells u x1 (tH ts 6 1))] (r6 [] H))) k3=some (.row e3 .str l3 n3):=by
    simp only[r6,qO];rw[aSo hik3,aSo hik3];exact h3
  obtain⟨bb,cap,hb3⟩: ∃bb cap,((ok&&decide (c=3))=true→g.cur k3 n3=some (.slice (some ⟨bb,0,none⟩) n3 cap)∧0<n3∧α=⟨bb,n3-1,none⟩):=by
    by_cases c3:c=3
    · obtain⟨bb,cap,q1,q2,q3⟩:=a3 c3
      exact⟨bb,cap,fun _=>⟨q1,q2,q3⟩⟩
    exact⟨0,0,fun h=>by simp [c3] at h⟩
  obtain⟨g3,E3⟩:=aJT (b:=ok&&decide (c=3)) (z:=y++s) (bb:=bb) (cap:=cap) E2.heap h3' (fun h=>⟨(hb3 h).1,(hb3 h).2.1⟩)
  have h4':qO (r6 [(k3,qJ.row e3 .str (F3 (ok&&decide (c=3)) (y++s) l3) n3)] (r6 [(i,qJ.cells u x2 (tH (tH ts 6 1) 7 1))] (r6 [(i,qJ.cells u x1 (tH ts 6 1))] (r6 [] H)))) k4=some (.row e4 GF l4 n4):=by
    simp only[r6,qO];rw[aSo hk34,aSo hik4,aSo hik4];exact h4
  obtain⟨bb4,cap4,hb4⟩: ∃bb cap,((ok&&decide (4≤c))=true→g.cur k4 n4=some (.slice (some ⟨bb,0,none⟩) n4 cap)∧0<n4∧α=⟨bb,(n4-1)*2+1,none⟩):=by
    by_cases c4:4≤c
    · obtain⟨bb,cap,q1,q2,q3⟩:=a4 c4
      exact⟨bb,cap,fun _=>⟨q1,q2,q3⟩⟩
    exact⟨0,0,fun h=>by simp [c4] at h⟩
  obtain⟨g4,E4⟩:=aJU (b:=ok&&decide (4≤c)) (z:=y++s) (bb:=bb4) (cap:=cap4) E3.heap h4' (fun h=>⟨E3.le.cur _ _ _ (hb4 h).1,(hb4 h).2.1⟩);have T1:=rL.trans (side:=[]) (rds:=[]) E0 E1;have T2:=rL.trans (side:=[]) (rds:=[]) T1 E2;have T3:=rL.trans (side:=[]) (rds:=[]) T2 E3;have T4:=rL.trans (side:=[]) (rds:=[]) T3 E4
  have hww:(if (ok&&decide (4≤c))=true then(if (ok&&decide (c=3))=true then(if (ok&&decide (c=2))=true then(if (ok&&decide (c=1))=true then w1.setCells p.1 (p.2+6) [.string ⟨(y++s).toArray⟩] else w1).setCells p.1 (p.2+7) [.string ⟨(y++s).toArray⟩] else(if (ok&&decide (c=1))=true then w1.setCells p.1 (p.2+6) [.string ⟨(y++s).toArray⟩] else w1)).setCells bb (n3-1) [.string ⟨(y++s).toArray⟩] else(if (ok&&decide (c=2))=true then(if (ok&&decide (c=1))=true then w1.setCells p.1 (p.2+6) [.string ⟨(y++s).toArray⟩] else w1).setCells p.1 (p.2+7) [.string ⟨(y++s).toArray⟩] else(if (ok&&decide (c=1))=true then w1.setCells p.1 (p.2+6) [.string ⟨(y++s).toArray⟩] else w1))).setCells bb4 ((n4-1)*2+1) [.string ⟨(y++s).toArray⟩] else(if (ok&&decide (c=3))=true then(if (ok&&decide (c=2))=true then(if (ok&&decide (c=1))=true then w1.setCells p.1 (p.2+6) [.string ⟨(y++s).toArray⟩] else w1).setCells p.1 (p.2+7) [.string ⟨(y++s).toArray⟩] else(if (ok&&decide (c=1))=true then w1.setCells p.1 (p.2+6) [.string ⟨(y++s).toArray⟩] else w1)).setCells bb (n3-1) [.string ⟨(y++s).toArray⟩] else(if (ok&&decide (c=2))=true then(if (ok&&decide (c=1))=true then w1.setCells p.1 (p.2+6) [.string ⟨(y++s).toArray⟩] else w1).setCells p.1 (p.2+7) [.string ⟨(y++s).toArray⟩] else(if (ok&&decide (c=1))=true then w1.setCells p.1 (p.2+6) [.string ⟨(y++s).toArray⟩] else w1))))=w':=by
    rw[hw'];cases ok with
    |false=>simp
    | true=>
      by_cases c1:c=1
      · subst c1
        obtain⟨p',hp',rfl⟩:=a1 rfl;rw[hp] at hp';obtain rfl:=aSr hp';simp
      by_cases c2:c=2
      · subst c2
        obtain⟨p',hp',rfl⟩:=a2 rfl;rw[hp] at hp';obtain rfl:=aSr hp';simp
      by_cases c3:c=3
      · subst c3
        rw[(hb3 pS).2.2];simp
      have c4:4≤c:=by omega
      rw[(hb4 (by simp [c4])).2.2];simp [c1,c2,c3,c4]
  rw[hww] at T4;refine⟨_,rfl,hK g4 w' _ (rL.w ?_)⟩;refine(rL.more (sd2:=[]) (r2:=[]) (U2:=[(i,qJ.cells u x2 (tH (tH ts 6 1) 7 1)),(k3,.row e3 .str (F3 (ok&&decide (c=3)) (y++s) l3) n3),(k4,.row e4 GF (F4 (ok&&decide (4≤c)) (y++s) l4) n4)]) T4 (fun j=>?_) (fun j hj=>?_)).slot' ⟨.inr ⟨rfl,rfl⟩,trivial⟩
  · simp only[r6,qO]
    by_cases j1:i=j
    · subst j1
      rw[aSn rfl,aSo (Ne.symm hik4),aSo (Ne.symm hik3),aSn rfl]
    rw[aSo j1]
    by_cases j3:k3=j
    · subst j3
      rw[aSn rfl,aSo (Ne.symm hk34),aSn rfl]
    rw[aSo j3]
    by_cases j4:k4=j
    · subst j4
      rw[aSn rfl,aSn rfl]
    rw[aSo j4,aSo j4,aSo j3,aSo j1,aSo j1]
  simp only[r6,qQ,aSC,aTQ,or_false] at hj|-
  rcases hj with rfl|rfl|rfl|rfl<;>simp
theorem aJW {fop:Operand}{args:Array Operand}{tys:Array TypeId}(ho:o.op= .call ⟨.value fop,args,tys⟩) {ρ:Operand→qM}(hf:rO g w (ρ fop) (a.eval fop)) (hρ: ∀x∈args.toList,rO g w (ρ x) (a.eval x)) {base:Nat}{e:qS}
    (hr:N5 T Γ base H (BP T ρ args.toList tys.toList) (ρ fop)=some e) (hs: ∀p∈e.side,p) (hfr:xV g base e) (hlen:args.size=tys.size):rH P o a g w H e:=by
  unfold N5 at hr;split at hr
  · rename_i x k heq
    rw[heq] at hf;exact aJV hT hΓ hH ho hf.1 hρ hr hs hlen
  · rename_i f caps k heq
    unfold a0d at hr;split at hr
    · rename_i hfm
      rw[heq] at hf;unfold a9g at hr;split at hr
      · subst hfm
        refine aJQ hT hΓ hH ho ?_ hρ hr hlen;rcases hf.1 with⟨h1,_⟩ |⟨_,vs,h2,h3⟩
        .cases h1
        rw[show vs=[] from h2] at h3
        simpa using h3
      cases hr
    exact aAQ hT hΓ hH ho hf hρ (by rw[heq];exact hr) hs hfr hlen
  rename_i s _ _
  exact aAQ hT hΓ hH ho hf hρ hr hs hfr hlen
theorem aAU: ∀{xs:List Operand}{ts:List TypeId},KK xs ts=true→xs.length=ts.length
  |[],[],_=>rfl
  |_::xs,_::ts,h=>by simp only[KK] at h;simp [aAU h]
  |[],_::_,h=>by cases h
  |_::_,[],h=>by cases h
theorem a1a {op:Op}(ho:o.op=op) {ρ:Operand→qM}(hρ: ∀x∈sR op,rO g w (ρ x) (a.eval x)) {base:Nat}{e:qS}(hr:u6 T Γ o.type ρ base H op=some e) (hs: ∀p∈e.side,p) (hf:xV g base e):rH P o a g w H e:=by
  unfold u6 at hr;split at hr
  · rename_i x
    exact a92 hT hH (.inl ho) (hρ x (by simp [sR])) hr hf
  · rename_i x
    exact a92 hT hH (.inr ho) (hρ x (by simp [sR])) hr hf
  .exact aIU hT hH ho hr hf
  · rename_i t x
    exact aIV hT hH ho (hρ x (by simp [sR])) (fun _=>a0V hT hΓ hH (hρ x (by simp [sR]))) hr hf
  · rename_i t ps
    exact aIy hT hH ho (ρ:=ρ) (fun q hq=>hρ q.2 (by
      simp only[sR];generalize ps.toList=l at hq
      induction l with
      |nil=>cases hq
      |cons p l ih=>rcases aSC.1 hq with rfl|h<;>simp_all [sR.parts])) hr
  · rename_i t n ps
    exact aI3 hT hH ho (ρ:=ρ) (fun q hq=>hρ q.2 (by
      simp only[sR];generalize ps.toList=l at hq
      induction l with
      |nil=>cases hq
      |cons p l ih=>rcases aSC.1 hq with rfl|h<;>simp_all [sR.parts])) hr hf
  · rename_i t x
    exact aIN hT hH ho (hρ x (by simp [sR])) hr hs
  · rename_i t x y
    exact aI2 hT hH ho (hρ x (by simp [sR])) (a0V hT hΓ hH (hρ y (by simp [sR]))) hr hs hf
  · rename_i x
    exact aIs hT hH ho (hρ x (by simp [sR])) hr
  · rename_i op t x y t'
    cases hw:SR op (rR T t) (ρ x) (ρ y) with
    | some r=>
      rw[hw] at hr;exact aIj hH ho (hρ x (by simp [sR])) (hρ y (by simp [sR])) (by rw[hw];exact hr)
    |none=>
    rw[hw] at hr;cases hb:SQ op (ρ x) (ρ y) with
    | some r=>
      rw[hb] at hr;exact aIi hH ho (hρ x (by simp [sR])) (hρ y (by simp [sR])) (by rw[hb];exact hr) hs
    | none=>
      rw[hb] at hr;exact aJG hT hH ho (hρ x (by simp [sR])) (hρ y (by simp [sR])) hr
  · rename_i op t x
    exact aIk hH ho (hρ x (by simp [sR])) hr hs
  · rename_i t t' x
    cases hb:ST (rR T t) (rR T t') (ρ x) with
    | some r=>
      rw[hb] at hr;exact aIl hT hH ho (hρ x (by simp [sR])) (by rw[hb];exact hr)
    | none=>
      rw[hb] at hr;exact aJK hT hH ho (hρ x (by simp [sR])) hr
  · rename_i f first caps
    have hfi:first= #[]:=by
      cases hl:first.toList with
      |nil=>apply aTt.1;simpa using hl
      |cons x l=>rw[hl] at hr;cases hr
    subst hfi;exact aIC hT hH ho (ρ:=ρ) (fun x hx=>hρ x (by simpa[sR] using hx)) hr
  · rename_i t x lo hi
    refine aIO hT hH ho (ρ:=ρ) (hρ x (by simp [sR])) (fun y hy=>hρ y ?_) (fun y hy=>hρ y ?_) hr hs
    · cases lo with
      |none=>simp at hy
      |some l=>simp at hy;subst hy;simp [sR,sR.opt,r6]
    cases hi with
    |none=>simp at hy
    |some l=>simp at hy;subst hy;cases lo<;>simp [sR,sR.opt,r6]
  · rename_i t x f
    exact aIq hT hH ho (hρ x (by simp [sR])) hr
  · rename_i t x f
    exact aIp hT hH ho (hρ x (by simp [sR])) hr
  · rename_i t x ix
    exact aIu hT hH ho (hρ x (by simp [sR])) (hρ ix (by simp [sR])) hr hs
  · rename_i t x ix
    exact aIt hT hH ho (hρ x (by simp [sR])) (hρ ix (by simp [sR])) hr hs
  · rename_i x i
    exact aIr hT hH ho (hρ x (by simp [sR])) hr hs
  · rename_i t r
    exact aI6 hT hH ho hr hf
  · rename_i t x
    exact aJc hT hH ho (hρ x (by simp [sR])) hr hf
  · rename_i x b
    exact aJd hT hH ho (hρ x (by simp [sR])) hr
  · rename_i t x i ok
    exact aI9 hT hH ho (hρ x (by simp [sR])) (hρ i (by simp [sR])) hr
  · rename_i t m k x
    exact aAf hT hH (.inl ho) (hρ m (by simp [sR])) (hρ k (by simp [sR])) (aAe (hρ x (by simp [sR]))) hr
  · rename_i t m k x
    exact aAf hT hH (.inr ho) (hρ m (by simp [sR])) (hρ k (by simp [sR])) (aAe (hρ x (by simp [sR]))) hr
  · rename_i c
    obtain⟨cal,args,tys⟩:=c;simp only at hr;unfold KO at hr;split at hr
    .exact aIB hT hH ho (ρ:=ρ) (fun x hx=>hρ x (by simpa[sR] using hx)) hr
    .exact aJL hT hH ho (ρ:=ρ) (fun x hx=>hρ x (by simpa[sR] using hx)) hr hs
    .exact a9P (mx:=true) hT hH ho (ρ:=ρ) (fun x hx=>hρ x (by simpa[sR] using hx)) hr
    .exact a9P (mx:=false) hT hH ho (ρ:=ρ) (fun x hx=>hρ x (by simpa[sR] using hx)) hr
    · rename_i f
      cases hsl:KK args.toList tys.toList with
      |false=>rw[hsl] at hr;cases hr
      | true=>
        rw[hsl] at hr;simp only[a0e] at hr;exact aJW hT hΓ hH ho (hρ f (by simp [sR])) (fun x hx=>hρ x (by simp [sR];right;simpa using hx)) hr hs hf (by simpa using aAU hT hΓ hH hsl)
    cases hr
  cases hr
end
def AQ (g:Gh) (w:q9) (env:List (Nat×qM)) (tmps:Array qB):Prop:= ∀t,rO g w (lk env t) (tmps.getD t undef)
def zT (B:Nat) (w:q9) (ds:List Deferred):Prop:=ds.Nodup/\∀d∈ds,∃D,d={target:= .collected D,args:= #[]}/\B<=D/\NG<=D/\w.heap[D]? =some (.deferred (some []))
theorem aAV (B:Nat) (w:q9):zT B w []:=⟨List.nodup_nil,fun d hd=>by cases hd⟩
theorem zT.same {B:Nat}{w w':q9}{ds:List Deferred}(h:zT B w ds) (hb: ∀D:Nat,w.heap[D]? =some (Obj.deferred (some []))->w'.heap[D]? =some (Obj.deferred (some []))):zT B w' ds:=
 ⟨h.1,fun d hd=>by obtain⟨D,h1,h2,h0,h3⟩:=h.2 d hd;exact⟨D,h1,h2,h0,hb D h3⟩⟩
def GQ:Obj->Bool
 | .deferred _=>true
 | .loop _=>true
 |_=>false
theorem a1b {w:q9}{b:Nat}{ob:Obj}(hd:w.heap[b]? =some ob) (hm:GQ ob=true) (o:Nat):w.cell? ⟨b,o,none⟩=none:=by
 unfold World.cell?;simp only[hd];cases ob<;>first|rfl|cases hm
theorem VG {g:Gh}{w:q9}{i:Nat}{blk:qJ}(h:A2 g w i blk) {b o:Nat}(ho:s9 g i blk b o) {ob:Obj}(hd:w.heap[b]? =some ob) (hm:GQ ob=true):False:=by
 have hrow: ∀{e:TypeId}{c n:Nat}{v:qB}{xs:pX},w.ownsRow 0 e c v n xs->v.ownBlock=some b->False:=by
  intro e c n v xs hr hb;rcases hr.2 with⟨rfl,_⟩ |⟨g',cap,cur,rfl,_,h3,_⟩
  .cases hb
  simp only[Value.ownBlock,aSm] at hb;subst hb;rw[hd] at h3;cases h3;cases hm
 cases blk with
 |cells t x toks=>
  obtain⟨p,cs,hp,_,_,ht,_⟩:=h;obtain⟨q,hq,rfl,h1,h2⟩:=ho;rw[hp] at hq;obtain rfl:=aSr hq;have:=(ht.1 (o-p.2) pQ).1;rw[a1b hd hm] at this;cases this
 |grow e c n=>
  obtain⟨v,xs,hv,hr,_⟩:=h;obtain⟨v',hv',hb⟩:=ho;rw[hv] at hv';obtain rfl:=aSr hv';exact hrow hr hb
 |row e t l n=>
  obtain⟨_,v,xs,hv,hr,_⟩:=h;obtain⟨v',hv',hb⟩:=ho;rw[hv] at hv';obtain rfl:=aSr hv';exact hrow hr hb
 |map k v l=>
  obtain⟨p,es,cl,hp,h0,h2,_⟩:=h;obtain⟨q,hq,h1⟩:=ho;rw[hp] at hq;obtain rfl:=aSr hq;rw[show b=p.1 from h1] at hd;rw[h2] at hd;cases hd;cases hm
 |iter s n=>
  obtain⟨p,hp,h0,h2,_⟩:=h;obtain⟨q,hq,h1⟩:=ho;rw[hp] at hq;obtain rfl:=aSr hq;rw[show b=p.1 from h1] at hd;rw[h2] at hd;cases hd;cases hm
 |dead=>exact ho.elim
theorem zT.eff {B:Nat}{g g':Gh}{w w':q9}{H:s7}{e:qS}{v:qB}{ds:List Deferred}(h:zT B w ds) (hH:sE g w H) (k:zQ g w H e g' w' v):zT B w' ds:=
 h.same fun D hD=>by
  rw[k.fr.blk D (aSP.1 hD).1 (fun o ⟨i,blk,_,h1,h2⟩=>VG (hH.blk i blk h1) h2 hD rfl)];exact hD
structure uK (B:Nat) (g:Gh) (w:q9) (s:St) (a:Act):Prop where
 env:AQ g w s.env a.tmps
 heap:sE g w s.H
 size:a.tmps.size=s.N
 nb: ∀i,s.nb<=i->g.J i=none/\∀n,g.cur i n=none
 def_:zT B w a.defers
 np:s.np<=s.nb
theorem aJX (g:Gh) (w:q9) (v:qB):yO g w (YK v) v:=by
 unfold YK;split
 .exact vG _ _ _
 .exact wF _ _ _ _
 .rename_i s;have:=DB g w s.data.toList;rw[aTR] at this;exact this
 .exact rfl
 .exact .inr ⟨rfl,rfl⟩
 .exact .inr ⟨rfl,rfl⟩
 .exact .inr ⟨rfl,rfl⟩
 exact trivial
theorem A5 {g:Gh}{w:q9}{env:List (Nat×qM)}{a:Act}(h:AQ g w env a.tmps) (x:Operand):rO g w (tQ env x) (a.eval x):=by
 cases x with
 |tmp t=>exact h t
 |const v=>exact⟨aJX g w v,trivial⟩
 |func f=>exact⟨.inr ⟨rfl,[],rfl,rfl⟩,trivial⟩
 |global i=>exact⟨trivial,trivial⟩
theorem NK {g:Gh}{w:q9}{G:Bool}(hG:G=true): ∀{ss:List qM}{s:qM}{v:qB},s∈ss->(∀p∈yZ G ss,p)->rO g w s v->rO g w (tS s) v
 |x::ss,s,v,hm,hn,hs=>by
  have hcase: ∀{s:qM},(∀p∈yZ G [s],p)->rO g w s v->rO g w (tS s) v:=by
   intro s hn hs;obtain⟨d,k⟩:=s;cases d with
   |cond p d=>
    refine⟨hs.1.1 (hn (G=true->p=true) (by simp [yZ]) hG),?_⟩;simp only[tS]
   |_=>exact hs
  have hsplit: ∀p,p∈yZ G [x]->p∈yZ G (x::ss):=by
   intro p hp;unfold yZ at hp|-;split at hp
   .cases hp
   .rename_i heq;simp only[aS8] at heq;obtain⟨rfl,rfl⟩:=heq;rcases aSC.1 hp with h|h
    .exact h▸aSH
    cases h
   rename_i h0 heq;simp only[aS8] at heq;obtain⟨_,rfl⟩:=heq;cases hp
  have hsplit2: ∀p,p∈yZ G ss->p∈yZ G (x::ss):=by
   intro p hp;generalize hL:yZ G ss=L at hp;unfold yZ;split
   .rename_i h;cases h
   .rename_i heq;simp only[aS8] at heq;obtain⟨_,rfl⟩:=heq;rw[hL];exact aSy _ hp
   rename_i heq;simp only[aS8] at heq;obtain⟨_,rfl⟩:=heq;rw[hL];exact hp
  rcases aSC.1 hm with rfl|hm
  .exact hcase (fun p hp=>hn p (hsplit p hp)) hs
  exact NK hG hm (fun p hp=>hn p (hsplit2 p hp)) hs
theorem VH {env:List (Nat×qM)}: ∀{xs:List Operand}{x:Operand},x∈xs->tQ env x∈CE env xs
 |y::xs,x,h=>by
  simp only[CE];rcases aSC.1 h with rfl|h
  .exact aSH
  exact aSy _ (VH h)
theorem QK: ∀(ops:List Oper) (j:Nat),zZ ops j=(ops[j]?).bind (·.dst)
 |[],j=>by simp [zZ]
 |o::_,0=>rfl
 |_::r,j+1=>by simpa[zZ] using QK r j
section
variable {P:Program}{g:Gh}{w:q9}{T:sS}{Γ:tC}(hT:xA P T) (hΓ:DW P Γ)
include hT hΓ
theorem aJY {ops:List Oper}{o:Oper}{a:Act}{env:List (Nat×qM)}(henv:AQ g w env a.tmps) {j:Nat}{b:Bool}(hg:o.guard=some (j,b)) {G:Bool}(h:GH env b (zZ ops j)=some G):Region.wanted o (yielded ops.toArray a.tmps)=G:=by
 rw[QK] at h;unfold Region.wanted;rw[hg];simp only;cases hd:(ops[j]?).bind (·.dst) with
 |none=>rw[hd] at h;cases h
 |some t=>
  rw[hd] at h;simp only[GH] at h;have hy:yielded ops.toArray a.tmps j=match a.tmps[t]? with|some (.bool b)=>some b|_=>none:=by
   unfold yielded;have:(ops.toArray[j]?).bind (·.dst)=some t:=by simpa using hd
   rw[this];rfl
  have hv:=henv t;generalize hl:lk env t=s at h hv;unfold a9l at h;have hb: ∀c,a.tmps.getD t undef= .bool c->a.tmps[t]? =some (.bool c):=by
   intro c hc;rw[aSV] at hc;cases hq:a.tmps[t]? with
   |none=>rw[hq] at hc;simp [undef] at hc
   |some v=>rw[hq] at hc;simp at hc;rw[hc]
  split at h
  .rename_i c k;simp only[aSm] at h;have:=hb _ (vF hv.1);rw[hy,this,<-h];cases c<;>cases b<;>rfl
  .rename_i p c k;simp only[aSm] at h;subst h;cases p with
   |true=>
    have:=hb _ (vF (hv.1.1 rfl));rw[hy,this];cases c<;>cases b<;>rfl
   |false=>
    have hu:=hv.1.2 rfl;have: ∀c,a.tmps[t]? ≠some (.bool c):=by
     intro c hc;rw[aSV,hc] at hu;simp [undef] at hu
    rw[hy];cases hq:a.tmps[t]? with
    |none=>cases b<;>rfl
    |some v=>cases v<;>first|(exact absurd hq (this _)) |(cases b<;>rfl)
  cases h
theorem aJZ {ops:List Oper}{o:Oper}{a:Act}{env:List (Nat×qM)}(henv:AQ g w env a.tmps) {j:Nat}{b:Bool}(hg:o.guard=some (j,b)) (h:KP env b (zZ ops j)=false):Region.wanted o (yielded ops.toArray a.tmps)=false:=by
 rw[QK] at h;unfold Region.wanted;rw[hg];simp only;cases hd:(ops[j]?).bind (·.dst) with
 |none=>rw[hd] at h;cases h
 |some t=>
  rw[hd] at h;simp only[KP] at h;have hy:yielded ops.toArray a.tmps j=match a.tmps[t]? with|some (.bool b)=>some b|_=>none:=by
   unfold yielded;have:(ops.toArray[j]?).bind (·.dst)=some t:=by simpa using hd
   rw[this];rfl
  have hv:=henv t;generalize hl:lk env t=s at h hv;have hb: ∀c,a.tmps.getD t undef= .bool c->a.tmps[t]? =some (.bool c):=by
   intro c hc;rw[aSV] at hc;cases hq:a.tmps[t]? with
   |none=>rw[hq] at hc;simp [undef] at hc
   |some v=>rw[hq] at hc;simp at hc;rw[hc]
  have hun:a.tmps.getD t undef=undef->(yielded ops.toArray a.tmps j==some b)=false:=by
   intro hu;have: ∀c,a.tmps[t]? ≠some (.bool c):=by
    intro c hc;rw[aSV,hc] at hu;simp [undef] at hu
   rw[hy];cases hq:a.tmps[t]? with
   |none=>cases b<;>rfl
   |some v=>cases v<;>first|(exact absurd hq (this _)) |(cases b<;>rfl)
  unfold a9m at h;split at h
  .rename_i c k;have:=hb _ (vF hv.1);rw[hy,this];cases c<;>cases b<;>first|rfl|cases h
  .rename_i p c k;cases p with
   |true=>
    have:=hb _ (vF (hv.1.1 rfl));rw[hy,this];cases c<;>cases b<;>first|rfl|cases h
   |false=>exact hun (hv.1.2 rfl)
  .rename_i p k;subst h;exact hun (hv.1.2 rfl)
  cases h
theorem QL {G:Bool}{p:Prop}: ∀{l:List Prop},p∈l->(G=true->p)∈PX G l
 |q::l,h=>by
  simp only[PX];rcases aSC.1 h with rfl|h
  .exact aSH
  exact aSy _ (QL h)
theorem a1c {o:Oper}{a:Act}{H:s7}(hH:sE g w H) {c x y:Operand}(hop:o.op= .pick c x y) {sc sx sy:qM}(hc:rO g w sc (a.eval c)) (hx:rO g w sx (a.eval x)) (hy:rO g w sy (a.eval y)) {e:qS}(hr:PW sc sx sy=some e) (hs: ∀p∈e.side,p):rH P o a g w H e:=by
 intro K Q hK;unfold PW at hr;split at hr
 .rename_i z k;have hz:=vF hc.1;have run:(execOp a.eval o).run P w= .ok (.value (if z then a.eval x else a.eval y)) w:=by
   unfold execOp;rw[hop];simp [hz,asBool]
  have fin: ∀{v:Bool}{side:List Prop},(if z then a.eval x else a.eval y)= .bool v->e=⟨side,(.val .bool v,none),[],[]⟩->o.wp P a w K Q:=by
   intro v side hv he;subst he;refine rH.value (v:= .bool v) (g':=g) (w':=w) (H:=H) (by rw[run,hv]) (.pure hH (s:=(.val .bool v,none)) ⟨(vG g w v:yO g w (.val .bool v) (.bool v)),trivial⟩) K Q hK
  unfold a9n at hr;split at hr
  .rename_i m1 _ m2 _;simp only[aSm] at hr;refine fin (v:=cond z m1 m2) ?_ hr.symm;cases z
   .exact vF hy.1
   exact vF hx.1
  .rename_i p m1 _ m2 _;simp only[aSm] at hr;refine fin (v:=cond z m1 m2) ?_ hr.symm;cases z
   .exact vF hy.1
   exact vF (hx.1.1 (hs (true=true->p=true) (by rw[<-hr];simp) rfl))
  .rename_i m1 _ p m2 _;simp only[aSm] at hr;refine fin (v:=cond z m1 m2) ?_ hr.symm;cases z
   .exact vF (hy.1.1 (hs (false=false->p=true) (by rw[<-hr];simp) rfl))
   exact vF hx.1
  .rename_i q m1 _ p m2 _;simp only[aSm] at hr;refine fin (v:=cond z m1 m2) ?_ hr.symm;cases z
   .exact vF (hy.1.1 (hs (false=false->p=true) (by rw[<-hr];simp) rfl))
   exact vF (hx.1.1 (hs (true=true->q=true) (by rw[<-hr];simp) rfl))
  .rename_i m1 _ p _;simp only[aSm] at hr;have hz1:z=true:=hs _ (by rw[<-hr];simp);refine fin (v:=m1) ?_ hr.symm;rw[hz1];exact vF hx.1
  .rename_i q m1 _ p _;simp only[aSm] at hr;have hz1:z=true:=hs (z=true) (by rw[<-hr];simp);refine fin (v:=m1) ?_ hr.symm;rw[hz1];exact vF (hx.1.1 (hs (q=true) (by rw[<-hr];simp)))
  .rename_i p _ m2 _;simp only[aSm] at hr;have hz1:z=false:=hs _ (by rw[<-hr];simp);refine fin (v:=m2) ?_ hr.symm;rw[hz1];exact vF hy.1
  .rename_i p _ q m2 _;simp only[aSm] at hr;have hz1:z=false:=hs (z=false) (by rw[<-hr];simp);refine fin (v:=m2) ?_ hr.symm;rw[hz1];exact vF (hy.1.1 (hs (q=true) (by rw[<-hr];simp)))
  cases hr
 cases hr
omit hT hΓ in
theorem QM {np:Nat}{x:Option qS}{e:qS}(h:a0k np x=some e):x=some e/\(I4 e.rds=true->IC np e.upd=true):=by
 cases x with
 |none=>cases h
 |some q=>
  simp only[a0k] at h;cases hq:I4 q.rds with
  |false=>
   rw[hq] at h;cases h;exact⟨rfl,fun h=>by rw[hq] at h;cases h⟩
  |true=>
   rw[hq] at h;simp only[a9q] at h;split at h
   .rename_i hc;cases h;exact⟨rfl,fun _=>hc⟩
   cases h
omit hT hΓ in
theorem aAW {np:Nat}{H:s7}: ∀{U:List (Nat×qJ)},IC np U=true->∀{i:Nat}{u:Ty}{y:u.den}{us:pV},i<np->qO (r6 U H) i=some (.cells u y us)->qO H i=some (.cells u y us)
 |[],_,i,u,y,us,_,h=>h
 |(j,b)::U,h,i,u,y,us,hi,hg=>by
  simp only[r6,qO] at hg;split at hg
  .rename_i e;subst e;simp only[aSm] at hg;subst hg;simp only[IC] at h;split at h
   .omega
   cases h
  refine aAW ?_ hi hg;unfold IC at h;split at h
  .rename_i heq;cases heq
  .rename_i heq;cases heq;split at h
   .exact h
   cases h
  rename_i heq;cases heq;exact h
theorem aAX {ops:List Oper}{o:Oper}{a:Act}{s:St}{e:qS}(henv:AQ g w s.env a.tmps) (hH:sE g w s.H) (hr:zP T Γ ops o s=some e) (hs: ∀p∈e.side,p) (hf:xV g s.nb e) {K:Act->q9->Prop}{Q:Exit->Act->q9->Prop}
  (hK: ∀g' w' v,zQ g w s.H e g' w' v->K (a.put o.dst v) w'):
  if Region.wanted o (yielded ops.toArray a.tmps) then o.wp P a w K Q else K (a.put o.dst undef) w:=by
 replace hr:=(QM hr).1;unfold NB at hr;cases hgd:o.guard with
 |none=>
  rw[hgd] at hr;simp only at hr;have hw:Region.wanted o (yielded ops.toArray a.tmps)=true:=by unfold Region.wanted;rw[hgd]
  rw[aSn hw];cases hop:o.op with
  |pick c x y=>
   rw[hop] at hr;simp only[NA] at hr;exact a1c hT hΓ hH hop (A5 henv c) (A5 henv x) (A5 henv y) hr hs K Q hK
  |_=>
   rw[hop] at hr;simp only[NA] at hr;rw[<-hop] at hr;generalize hpl:u6 T Γ o.type (fun x=>tS (tQ s.env x)) s.nb s.H o.op=op at hr;cases op with
   |none=>cases hr
   |some e0=>
    simp only[N8,aSm] at hr;subst hr;refine a1a hT hΓ hH rfl (ρ:=fun x=>tS (tQ s.env x)) (fun x hx=>?_) hpl (fun p hp=>hs p (wQ.2 (.inr hp))) hf K Q (fun g' w' v h=>hK g' w' v ⟨h.le,h.slot,h.heap,h.fr,h.perm,h.gho,h.ty⟩);exact NK rfl (VH hx) (fun p hp=>hs p (wQ.2 (.inl hp))) (A5 henv x)
 |some jb=>
  obtain⟨j,b⟩:=jb;rw[hgd] at hr;simp only at hr;cases hsk:Γ (UG j b) with
  |some sg=>
   rw[hsk] at hr;simp only[PY] at hr;cases hdf:a9o o.op with
   |true=>rw[hdf] at hr;cases hr
   |false=>
   rw[hdf] at hr;simp only[a9p,aSm] at hr;subst hr;have hup:KP s.env b (zZ ops j)=false:=hs _ aSH;rw[aJZ hT hΓ henv hgd hup,aSo pR];exact hK g w undef (zQ.pure hH ⟨⟨fun hc=>(by cases hc),fun _=>rfl⟩,trivial⟩)
  |none=>
  rw[hsk] at hr;simp only[PY] at hr;generalize hG:GH s.env b (zZ ops j)=oG at hr;cases oG with
  |none=>cases hr
  |some G=>
   have hw:=aJY hT hΓ henv hgd hG;rw[hw];by_cases hpk: ∃c x y,o.op= .pick c x y
   .obtain⟨c,x,y,hop⟩:=hpk;rw[hop] at hr;simp only[N9] at hr;generalize hpl:PW (tS (tQ s.env c)) (tQ s.env x) (tQ s.env y)=op at hr;cases op with
    |none=>cases hr
    |some e0=>
     unfold IB at hr;split at hr
     .rename_i side d k rds heq;simp only[aSm] at hr heq;subst hr;subst heq;by_cases hGt:G=true
      .rw[aSn hGt];refine a1c hT hΓ hH hop (NK hGt (ss:=[tQ s.env c]) pS (fun p hp=>hs p (wQ.2 (.inl hp))) (A5 henv c)) (A5 henv x) (A5 henv y) hpl (fun p hp=>hs (G=true->p) (wQ.2 (.inr (QL hT hΓ hp))) hGt) K Q (fun g' w' v h=>hK g' w' v ⟨h.le,⟨⟨fun _=>h.slot.1,fun hc=>by rw[hGt] at hc;cases hc⟩,trivial⟩,h.heap,h.fr,h.perm,h.gho,h.ty⟩)
      rw[aSo hGt];exact hK g w undef (zQ.pure hH ⟨⟨fun hc=>absurd hc hGt,fun _=>rfl⟩,trivial⟩)
     .rename_i side sl u us rds heq;simp only[aSm] at hr heq;subst hr;subst heq;have hGt:G=true:=hs _ aSH;rw[aSn hGt];exact a1c hT hΓ hH hop (NK hGt (ss:=[tQ s.env c]) pS (fun p hp=>hs p (aSy _ (wQ.2 (.inl hp)))) (A5 henv c)) (A5 henv x) (A5 henv y) hpl (fun p hp=>hs (G=true->p) (aSy _ (wQ.2 (.inr (QL hT hΓ hp)))) hGt) K Q (fun g' w' v h=>hK g' w' v ⟨h.le,h.slot,h.heap,h.fr,h.perm,h.gho,h.ty⟩)
     cases hr
   have e1:N9 T Γ o s (some G) o.op=IB G (yZ G (CE s.env (sR o.op))) (u6 T Γ o.type (fun x=>tS (tQ s.env x)) s.nb s.H o.op):=by
    cases ho:o.op<;>first|rfl|(exact absurd ⟨_,_,_,ho⟩ hpk)
   rw[e1] at hr;generalize hpl:u6 T Γ o.type (fun x=>tS (tQ s.env x)) s.nb s.H o.op=op at hr;cases op with
   |none=>cases hr
   |some e0=>
    unfold IB at hr;split at hr
    .rename_i side d k rds heq;simp only[aSm] at hr heq;subst hr;subst heq;by_cases hGt:G=true
     .rw[aSn hGt];refine a1a hT hΓ hH rfl (ρ:=fun x=>tS (tQ s.env x)) (fun x hx=>?_) hpl (fun p hp=>hs (G=true->p) (wQ.2 (.inr (QL hT hΓ hp))) hGt) (fun i hi=>by cases hi) K Q (fun g' w' v h=>hK g' w' v ⟨h.le,⟨⟨fun _=>h.slot.1,fun hc=>by rw[hGt] at hc;cases hc⟩,trivial⟩,h.heap,h.fr,h.perm,h.gho,h.ty⟩);exact NK hGt (VH hx) (fun p hp=>hs p (wQ.2 (.inl hp))) (A5 henv x)
     rw[aSo hGt];exact hK g w undef (zQ.pure hH ⟨⟨fun hc=>absurd hc hGt,fun _=>rfl⟩,trivial⟩)
    .rename_i side sl u us rds heq;simp only[aSm] at hr heq;subst hr;subst heq;have hGt:G=true:=hs _ aSH;rw[aSn hGt];refine a1a hT hΓ hH rfl (ρ:=fun x=>tS (tQ s.env x)) (fun x hx=>?_) hpl (fun p hp=>hs (G=true->p) (aSy _ (wQ.2 (.inr (QL hT hΓ hp)))) hGt) hf K Q (fun g' w' v h=>hK g' w' v ⟨h.le,h.slot,h.heap,h.fr,h.perm,h.gho,h.ty⟩);exact NK hGt (VH hx) (fun p hp=>hs p (aSy _ (wQ.2 (.inl hp)))) (A5 henv x)
    cases hr
end
structure tE (A:Nat->Nat->Prop) (L:List qJ) (g0:Gh) (w0:q9) (g:Gh) (w:q9) (H:s7):Prop where
 shut: ∀b o,g0.S b o->g.S b o/\w.cell? ⟨b,o,none⟩=w0.cell? ⟨b,o,none⟩
 fr:Fr A w0 w g0.S g.S
 perm: ∀i blk b o,qO H i=some blk->s9 g i blk b o->w0.heap.size<=b\/A b o
 J: ∀i p,i<L.length->g0.J i=some p->g.J i=some p
 live: ∀i,i<L.length->(∃p,g.J i=some p)\/(∃n v,g.cur i n=some v)
 ty: ∀i u y us,i<L.length->qO H i=some (.cells u y us)->∃x ts,L[i]? =some (.cells u x ts)
 cur: ∀i n v,i<L.length->g0.cur i n=some v->g.cur i n=some v
def tE.eff {A:Nat->Nat->Prop}{L:List qJ}{g0 g g':Gh}{w0 w w':q9}{H:s7}{e:qS}{v:qB}(h:tE A L g0 w0 g w H) (k:zQ g w H e g' w' v) (hc:I4 e.rds=true->IC L.length e.upd=true):tE A L g0 w0 g' w' (r6 e.upd H):=by
 have hown: ∀b o,sU g H (qQ e.upd) b o->w0.heap.size<=b\/A b o:=fun b o ⟨i,blk,_,h2,h3⟩=>h.perm i blk b o h2 h3;refine⟨fun b o hs=>?_,h.fr.trans k.fr hown,fun i blk b o hg ho=>?_,fun i p hi hp=>k.le.J _ _ (h.J i p hi hp),fun i hi=>?_,fun i u y us hi hg=>?_,fun i n u hi hu=>k.le.cur _ _ _ (h.cur i n u hi hu)⟩
 .obtain⟨h1,h2⟩:=h.shut b o hs;exact⟨k.le.S b o h1,(k.le.cell b o h1).trans h2⟩
 .by_cases hi:i∈qQ e.upd
  .rcases k.perm i blk b o hi hg ho with h1|h1
   .exact .inl (aTn h.fr.size h1)
   exact hown b o h1
  exact h.perm i blk b o ((A3 hi).symm.trans hg) ((x8 (k.gho i hi).1 (k.gho i hi).2).1 ho)
 .rcases h.live i hi with⟨p,hp⟩ |⟨n,u,hu⟩
  .exact .inl ⟨p,k.le.J _ _ hp⟩
  exact .inr ⟨n,u,k.le.cur _ _ _ hu⟩
 cases hre:I4 e.rds with
 |true=>exact h.ty i u y us hi (aAW (hc hre) hi hg)
 |false=>
  rcases k.ty hre i u y us hg with⟨x,ts,h1⟩ |⟨h1,h2⟩
  .exact h.ty i u x ts hi h1
  rcases h.live i hi with⟨p,hp⟩ |⟨n,u,hu⟩
  .rw[h1] at hp;cases hp
  rw[h2] at hu;cases hu
def zU:pV->Nat->pZ
 |[],_=>none
 |(n,o)::r,k=>if n=k then some o else zU r k
def tY (g:Gh) (np:Nat) (m:pV):Gh:=
 ⟨g.S,fun i=>if i<np then g.J i else(zU m i).bind g.J,fun i n=>if i<np then g.cur i n else(zU m i).bind fun o=>g.cur o n⟩
def VI {n o:Nat}: ∀{m:pV},NC n o m=false->∀n' o',(n',o')∈m->n'≠n/\o'≠o
 |[],_,_,_,h=>by cases h
 |(a,b)::m,h,n',o',hm=>by
  simp only[NC,aTI,aS2] at h;rcases aSC.1 hm with h1|h1
  .cases h1;exact h.1
  exact VI h.2 n' o' h1
def a1d {np:Nat}: ∀{m:pV},x7 np m=true->∀{n o:Nat},(n,o)∈m->zU m n=some o/\(n<np->o=n)
 |[],_,_,_,h=>by cases h
 |(a,b)::m,hk,n,o,h=>by
  simp only[x7,aSA,aSR,aTN,aSx] at hk;obtain⟨⟨h1,h2⟩,h3⟩:=hk;simp only[zU];rcases aSC.1 h with h4|h4
  .cases h4;rw[aSn rfl];exact⟨rfl,fun h5=>by rcases h1 with h1|h1<;>omega⟩
  have h5:=VI h2 n o h4;rw[aSo (Ne.symm h5.1)];exact a1d h3 h4
def AR: ∀{m:pV}{k j:Nat},vZ m k=some j->(j,k)∈m
 |[],_,_,h=>by cases h
 |(a,b)::m,k,j,h=>by
  simp only[vZ] at h;split at h
  .rename_i e;subst e;simp only[aSm] at h;subst h;exact aSH
  exact aSy _ (AR h)
def z8 {g:Gh}{np:Nat}{m:pV}(hk:x7 np m=true) {n o:Nat}(h:(n,o)∈m):(tY g np m).J n=g.J o/\(tY g np m).cur n=g.cur o:=by
 obtain⟨h1,h2⟩:=a1d hk h;refine⟨?_,?_⟩
 .show (if n<np then g.J n else(zU m n).bind g.J)=_;by_cases hn:n<np
  .rw[aSn hn,h2 hn]
  rw[aSo hn,h1];rfl
 funext q;show (if n<np then g.cur n q else(zU m n).bind fun o=>g.cur o q)=_;by_cases hn:n<np
 .rw[aSn hn,h2 hn]
 rw[aSo hn,h1];rfl
def a1e {g:Gh}{np:Nat}{m:pV}(hk:x7 np m=true): ∀(l l':pV) (vs:pX),yD g l vs->CG m l=some l'->yD (tY g np m) l' vs
 |[],l',vs,h,hr=>by simp only[CG,aSm] at hr;subst hr;exact h
 |(i,o)::l,l',vs,⟨p,vs',h1,h2,h3⟩,hr=>by
  simp only[CG] at hr;cases hi:vZ m i with
  |none=>rw[hi] at hr;cases hr2:CG m l<;>rw[hr2] at hr<;>cases hr
  |some j=>
   rw[hi] at hr;cases hr2:CG m l with
   |none=>rw[hr2] at hr;cases hr
   |some l2=>
    rw[hr2] at hr;simp only[CG.renCons,aSm] at hr;subst hr;exact⟨p,vs',by rw[(z8 hk (AR hi)).1];exact h1,h2,a1e hk l l2 vs' h3 hr2⟩
def aJ0 {m:pV}{u t:Ty}{x y:t.den}{o:Nat}{l:List u.den}(h:z6 m t x=some y) (hg:r9 (.list u) t x o=some l):r9 (.list u) t y o=some l:=
 a0Y (z6 m) (fun _ _ _=>rfl) (fun _ _=>rfl) h hg
def aJ1 {c n3 n4:Nat}{a b d:pZ}{y:Nat×Nat×(Nat×Nat)×(Nat×Nat)}(h:a0l c n3 n4 a b d=some y): ∃i k3 k4,a=some i/\b=some k3/\d=some k4/\y=(c,i,(k3,n3),(k4,n4)):=by
 unfold a0l at h;split at h
 .exact⟨_,_,_,rfl,rfl,rfl,(aSr h).symm⟩
 cases h
def QN {g:Gh}{w:q9}{np:Nat}{m:pV}(hk:x7 np m=true): ∀{t:Ty}{x y:t.den}{cs:pX},Rd g w t x cs->z6 m t x=some y->Rd (tY g np m) w t y cs
 | .bool,_,_,_,r,h=>by cases h;exact r
 | .int _,_,_,_,r,h=>by cases h;exact r
 | .str,_,_,_,r,h=>by cases h;exact r
 | .unit,_,_,_,r,h=>by cases h;exact r
 | .list t,x,y,_,r,h=>by
  simp only[z6] at h;split at h
  .rename_i hp;cases h;exact vW (g:=g) (g':=tY g np m) rfl (t:= .list t) (by simpa[Ty.pure] using hp) r
  .cases h
 | .ref,none,y,_,r,h=>by cases h;exact r
 | .ref,some (i,o),y,_,⟨p,h1,h2⟩,h=>by
  simp only[z6,UM] at h;cases hi:vZ m i with
  |none=>rw[hi] at h;cases h
  |some j=>
   rw[hi] at h;cases h;exact⟨p,by rw[(z8 hk (AR hi)).1];exact h1,h2⟩
 | .clo,none,y,_,r,h=>by cases h;exact r
 | .clo,some (f,l),y,_,⟨vs,h1,h2⟩,h=>by
  simp only[z6,a9u] at h;cases hi:CG m l with
  |none=>rw[hi] at h;cases h
  |some l'=>
   rw[hi] at h;cases h;exact⟨vs,a1e hk l l' vs h1 hi,h2⟩
 | .fn,_,_,_,r,h=>by cases h;exact r
 | .rl _ _,none,y,_,r,h=>by cases h;exact r
 | .rl _ _,some (k,n),y,_,⟨v,h1,h2⟩,h=>by
  simp only[z6,a9w] at h;cases hi:vZ m k with
  |none=>rw[hi] at h;cases h
  |some j=>
   rw[hi] at h;cases h;exact⟨v,by rw[(z8 hk (AR hi)).2];exact h1,h2⟩
 | .mref,none,y,_,r,h=>by cases h;exact r
 | .mref,some (i,o),y,_,⟨p,h1,h2⟩,h=>by
  simp only[z6,UM] at h;cases hi:vZ m i with
  |none=>rw[hi] at h;cases h
  |some j=>
   rw[hi] at h;cases h;exact⟨p,by rw[(z8 hk (AR hi)).1];exact h1,h2⟩
 | .ap,(c,i,(k3,n3),(k4,n4)),y,_,r,h=>by
  simp only[z6,a9x] at h;obtain⟨i',k3',k4',e1,e2,e3,rfl⟩:=aJ1 h;exact a0Z (g:=g) (g':=tY g np m) (fun _ _ h=>⟨h,rfl⟩) (fun p hp=>⟨p,by rw[(z8 hk (AR e1)).1];exact hp,rfl,rfl⟩) (fun v hv=>by rw[(z8 hk (AR e2)).2];exact hv) (fun v hv=>by rw[(z8 hk (AR e3)).2];exact hv) r
 | .mp,none,y,_,r,h=>by cases h;exact r
 | .mp,some i,y,_,⟨p,h1,h2⟩,h=>by
  simp only[z6,a9v] at h;cases hi:vZ m i with
  |none=>rw[hi] at h;cases h
  |some j=>
   rw[hi] at h;cases h;exact⟨p,by rw[(z8 hk (AR hi)).1];exact h1,h2⟩
 | .pair a b,x,y,_,⟨c1,c2,e,r1,r2⟩,h=>by
  simp only[z6] at h;obtain⟨h1,h2⟩:=a0X h;refine⟨c1,c2,e,?_,?_⟩
  .split at h1
   .rename_i hp;exact(aSr h1)▸vW (g:=g) (g':=tY g np m) rfl hp r1
   exact QN hk r1 h1
  split at h2
  .rename_i hp;exact(aSr h2)▸vW (g:=g) (g':=tY g np m) rfl hp r2
  exact QN hk r2 h2
def VJ {g:Gh}{w:q9}{np:Nat}{m:pV}(hk:x7 np m=true) {s:qM}{v:qB}(h:rO g w s v):rO (tY g np m) w (A0 m s) v:=by
 have caps: ∀(l l':pV) (vs:pX),yD g l vs->CG m l=some l'->yD (tY g np m) l' vs:=a1e hk;unfold A0;split
 .rename_i k n k';cases hi:vZ m k with
  |none=>exact⟨trivial,trivial⟩
  |some j=>
   obtain⟨h1,h2⟩:=h.1;exact⟨⟨by rw[(z8 hk (AR hi)).2];exact h1,h2⟩,trivial⟩
 .obtain h1:=h.1;refine⟨?_,trivial⟩;rcases h1 with⟨h1,_⟩ |⟨_,h2⟩
  .cases h1
  exact .inr ⟨rfl,h2⟩
 .rename_i p k;obtain⟨i,o⟩:=p;simp only[a9s];cases hi:vZ m i with
  |none=>exact⟨trivial,trivial⟩
  |some j=>
   simp only[Option.map_some,A0.refSlot];obtain⟨q,hq,hv⟩:=xC h.1;exact⟨.inr ⟨rfl,q,by rw[(z8 hk (AR hi)).1];exact hq,by rw[hv]⟩,trivial⟩
 .rename_i f l k;cases hl:CG m l with
  |none=>exact⟨trivial,trivial⟩
  |some l'=>
   simp only[A0.cloSlot];rcases h.1 with⟨h1,_⟩ |⟨_,vs,h2,h3⟩
   .cases h1
   exact⟨.inr ⟨rfl,vs,caps l l' vs h2 hl,h3⟩,trivial⟩
 .rename_i i k;cases hi:vZ m i with
  |none=>exact⟨trivial,trivial⟩
  |some j=>
   simp only[A0.mpSlot];rcases h.1 with⟨h1,_⟩ |⟨_,p,h2,h3⟩
   .cases h1
   exact⟨.inr ⟨rfl,p,by rw[(z8 hk (AR hi)).1];exact h2,h3⟩,trivial⟩
 .rename_i t x k _ _ _ _;split
  .rename_i hp;have hv:tB (tY g np m) w t x v:=h.1.imp (fun⟨a,cs,e,q⟩=>⟨a,cs,e,vW (g:=g) (g':=tY g np m) rfl hp q⟩) (fun⟨a,q⟩=>⟨a,vW (g:=g) (g':=tY g np m) rfl hp q⟩);refine⟨hv,?_⟩;replace h:=aAh h;generalize htk:EW t k=k' at h|-;cases k' with
   |none=>trivial
   |some k=>
    simp only[a9t];cases hj:vZ m k with
    |none=>trivial
    |some j=>
     have h2:=h.2;cases t with
     |list u=>
      show (tY g np m).cur j _=_;rw[(z8 hk (AR hj)).2];exact h2
     |pair a b=>cases htk
     |_=>exact h2.elim
  cases hy:z6 m t x with
  |none=>exact⟨trivial,trivial⟩
  |some y=>
   simp only[A0.valSlot];exact⟨h.1.imp (fun⟨a,cs,e,q⟩=>⟨a,cs,e,QN hk q hy⟩) (fun⟨a,q⟩=>⟨a,QN hk q hy⟩),trivial⟩
 .rename_i t x k;split
  .rename_i hp;obtain⟨b,o,cs,h1,h2,h3,h4⟩:=h.1;exact⟨⟨b,o,cs,h1,h2,h3,vW (g:=g) (g':=tY g np m) rfl hp h4⟩,trivial⟩
  exact⟨trivial,trivial⟩
 .exact⟨h.1,trivial⟩
 exact⟨trivial,trivial⟩
def aAY {q j:Nat}{x:Nat×Nat}: ∀{r:pV},x∈UN q j r->x=(q,j)\/x∈r
 |[],h=> .inl (aSI.1 h)
 |(a,b)::r,h=>by
  simp only[UN] at h;split at h
  .exact aSC.1 h
  rcases aSC.1 h with h|h
  .exact .inr (by rw[h];exact aSH)
  exact(aAY h).imp id (aSy _)
def VK {m:pV}: ∀{ts:pV}{q j:Nat},(q,j)∈KT m ts->∃k,(q,k)∈ts/\vZ m k=some j
 |[],_,_,h=>by cases h
 |(a,b)::ts,q,j,h=>by
  simp only[KT] at h;cases hb:vZ m b with
  |none=>
   rw[hb] at h;obtain⟨k,h1,h2⟩:=VK h;exact⟨k,aSy _ h1,h2⟩
  |some j'=>
   rw[hb] at h;simp only[KT.renTok1] at h;rcases aAY h with h1|h1
   .cases h1;exact⟨b,aSH,hb⟩
   obtain⟨k,h1,h2⟩:=VK h1;exact⟨k,aSy _ h1,h2⟩
def L9 {g:Gh}{w:q9}{np:Nat}{m:pV}(hk:x7 np m=true) {n o:Nat}(hm:(n,o)∈m) {b:Option qJ}(h: ∀c,b=some c->A2 g w o c):
  A2 (tY g np m) w n (z7 m b)/\∀bb oo,s9 (tY g np m) n (z7 m b) bb oo->∃c,b=some c/\s9 g o c bb oo:=by
 obtain⟨hJ,hcur⟩:=z8 (g:=g) hk hm;unfold z7;split
 .rename_i t x toks;split
  .rename_i hp;obtain⟨p,cs,h1,h2,h3,h4,h5,h6⟩:=h _ rfl;refine⟨⟨p,cs,by rw[hJ];exact h1,vW (g:=g) (g':=tY g np m) rfl hp h2,h3,h4,h5,fun q j hmem=>?_⟩,fun bb oo ⟨pp,e1,e2⟩=>⟨_,rfl,pp,by rw[hJ] at e1;exact e1,e2⟩⟩;obtain⟨k,k1,k2⟩:=VK hmem;obtain⟨u,l,v,g1,g2,g3⟩:=h6 q k k1;exact⟨u,l,v,g1,g2,by rw[(z8 hk (AR k2)).2];exact g3⟩
  cases hy:z6 m t x with
  |none=>exact⟨trivial,fun _ _ h=>h.elim⟩
  |some y=>
   obtain⟨p,cs,h1,h2,h3,h4,h5,h6⟩:=h _ rfl;simp only[a0m];refine⟨⟨p,cs,by rw[hJ];exact h1,QN hk h2 hy,h3,h4,h5,fun q j hmem=>?_⟩,fun bb oo ⟨pp,e1,e2⟩=>⟨_,rfl,pp,by rw[hJ] at e1;exact e1,e2⟩⟩;obtain⟨k,k1,k2⟩:=VK hmem;obtain⟨u,l,v,g1,g2,g3⟩:=h6 q k k1;exact⟨u,l,v,aJ0 hy g1,g2,by rw[(z8 hk (AR k2)).2];exact g3⟩
 .rename_i e c k;obtain⟨v,xs,h1,h2,h3,h4⟩:=h _ rfl;exact⟨⟨v,xs,by rw[hcur];exact h1,h2,fun q hq=>by rw[hcur];exact h3 q hq,h4⟩,fun bb oo ⟨v',e1,e2⟩=>⟨_,rfl,v',by rw[hcur] at e1;exact e1,e2⟩⟩
 .rename_i e t l n;split
  .rename_i hp;obtain⟨h0,v,xs,h1,h2,h5,h3,h4⟩:=h _ rfl;exact⟨⟨h0,v,xs,by rw[hcur];exact h1,h2,CH (fun _ _ h=>vW (g:=g) (g':=tY g np m) rfl hp h) h5,fun q hq=>by rw[hcur];exact h3 q hq,h4⟩,fun bb oo ⟨v',e1,e2⟩=>⟨_,rfl,v',by rw[hcur] at e1;exact e1,e2⟩⟩
  exact⟨trivial,fun _ _ h=>h.elim⟩
 .rename_i k v l;split
  .rename_i hp;rw[aSA] at hp;obtain⟨p,es,cl,h1,h0,h2,h3,h4⟩:=h _ rfl;exact⟨⟨p,es,cl,by rw[hJ];exact h1,h0,h2,Q7 (g:=g) (g':=tY g np m) rfl hp.1 hp.2 h3,h4⟩,fun bb oo ⟨pp,e1,e2⟩=>⟨_,rfl,pp,by rw[hJ] at e1;exact e1,e2⟩⟩
  exact⟨trivial,fun _ _ h=>h.elim⟩
 .obtain⟨p,h1,h0,h2,h4⟩:=h _ rfl;exact⟨⟨p,by rw[hJ];exact h1,h0,h2,h4⟩,fun bb oo ⟨pp,e1,e2⟩=>⟨_,rfl,pp,by rw[hJ] at e1;exact e1,e2⟩⟩
 exact⟨trivial,fun _ _ h=>h.elim⟩
def IP {m:pV}{H:s7}: ∀{l:pV}{n:Nat}{b:qJ},qO (UO m H l) n=some b->∃o,(n,o)∈l/\b=z7 m (qO H o)
 |[],_,_,h=>by cases h
 |(a,c)::l,n,b,h=>by
  simp only[UO,qO] at h;split at h
  .rename_i e;subst e;exact⟨c,aSH,(aSr h).symm⟩
  obtain⟨o,h1,h2⟩:=IP h;exact⟨o,aSy _ h1,h2⟩
def aAZ {m:pV}{env:List (Nat×qM)}: ∀(l:q8) (t:Nat),lk (Q1 m env l) t=(.any,none)\/lk (Q1 m env l) t=A0 m (lk env t)
 |[],_=> .inl rfl
 |a::l,t=>by
  simp only[Q1,lk];split
  .rename_i e;subst e;exact .inr rfl
  exact aAZ l t
def aA0: ∀{m:pV}{n o:Nat},(n,o)∈m->n<UP m
 |(a,b)::m,n,o,h=>by
  simp only[UP];rcases aSC.1 h with h1|h1
  .cases h1;omega
  have:=aA0 h1;omega
def a1f: ∀{m:pV}{n o:Nat},zU m n=some o->(n,o)∈m
 |[],_,_,h=>by cases h
 |(a,b)::m,n,o,h=>by
  simp only[zU] at h;split at h
  .rename_i e;subst e;simp only[aSm] at h;subst h;exact aSH
  exact aSy _ (a1f h)
def a1g {B:Nat}{A:Nat->Nat->Prop}{L:List qJ}{g0 g:Gh}{w0 w:q9}{s:St}{a:Act}(h:uK B g w s a) (hg:tE A L g0 w0 g w s.H) (hnp:s.np=L.length) (k:wC) (hk:x7 s.np k.ids=true):
  uK B (tY g s.np k.ids) w (s.keep k) a/\tE A L g0 w0 (tY g s.np k.ids) w (s.keep k).H/\(s.keep k).np=L.length/\(s.keep k).N=s.N:=by
 unfold St.keep;rw[hk];refine⟨⟨fun t=>?_,⟨fun i b hb=>?_,fun i j bi bj b o hij h1 h2 o1 o2=>?_,h.heap.sl,h.heap.tab.1,fun i b bb oo hb ho=>by
   obtain⟨o,h1,rfl⟩:=IP hb;obtain⟨c1,e1,o1'⟩:=(L9 hk h1 fun c hc=>h.heap.blk o c hc).2 bb oo ho;exact h.heap.tab.2 o c1 bb oo e1 o1'⟩,h.size,fun i hi=>?_,h.def_,Nat.le_max_left _ _⟩,⟨hg.shut,hg.fr,fun i blk b o hb ho=>?_,fun i p hi hp=>?_,fun i hi=>?_,fun i u y us hi hb=>?_,fun i n u hi hu=>(by
   show (if i<s.np then g.cur i n else _)=_;rw[aSn pQ];exact hg.cur i n u hi hu)⟩,hnp,rfl⟩
 .rcases aAZ (m:=k.ids) (env:=s.env) k.slots t with e|e
  .exact⟨by rw[show lk (Q2 s k true).env t=_ from e];trivial,by rw[show lk (Q2 s k true).env t=_ from e];trivial⟩
  have:=VJ hk (h.env t);rw[show lk (Q2 s k true).env t=_ from e];exact this
 .obtain⟨o,h1,rfl⟩:=IP hb;exact(L9 hk h1 fun c hc=>h.heap.blk o c hc).1
 .obtain⟨p,k1,rfl⟩:=IP h1;obtain⟨q,k2,rfl⟩:=IP h2;obtain⟨c1,e1,o1'⟩:=(L9 hk k1 fun c hc=>h.heap.blk p c hc).2 b o o1;obtain⟨c2,e2,o2'⟩:=(L9 hk k2 fun c hc=>h.heap.blk q c hc).2 b o o2;refine h.heap.dis p q c1 c2 b o (fun e=>?_) e1 e2 o1' o2';subst e;have inj: ∀{m:pV},x7 s.np m=true->∀{i j o:Nat},(i,o)∈m->(j,o)∈m->i=j:=by
   intro m
   induction m with
   |nil=>intro _ _ _ _ h;cases h
   |cons z m ih=>
    obtain⟨z1,z2⟩:=z;intro hk i j o h1 h2;simp only[x7,aSA,aSR] at hk;rcases aSC.1 h1 with h1|h1<;>rcases aSC.1 h2 with h2|h2
    .cases h1;cases h2;rfl
    .cases h1;exact absurd rfl (VI hk.1.2 _ _ h2).2
    .cases h2;exact absurd rfl (VI hk.1.2 _ _ h1).2
    exact ih hk.2 h1 h2
  exact hij (inj hk k1 k2)
 .have hi': ¬i<s.np:=by have:=aTn (Nat.le_max_left _ _) hi;omega
  have hold:zU k.ids i=none:=by
   cases ho:zU k.ids i with
   |none=>rfl
   |some o=>
    have:=aA0 (a1f ho);have:=aTn (Nat.le_max_right _ _) hi;omega
  refine⟨?_,fun n=>?_⟩
  .show (if i<s.np then g.J i else(zU k.ids i).bind g.J)=none;rw[aSo hi',hold];rfl
  show (if i<s.np then g.cur i n else(zU k.ids i).bind fun o=>g.cur o n)=none;rw[aSo hi',hold];rfl
 .obtain⟨p,h1,rfl⟩:=IP hb;obtain⟨c,e1,e2⟩:=(L9 hk h1 fun c hc=>h.heap.blk p c hc).2 b o ho;exact hg.perm p c b o e1 e2
 .show (if i<s.np then g.J i else _)=_;rw[aSn pQ];exact hg.J i p hi hp
 .rcases hg.live i hi with⟨p,hp⟩ |⟨n,v,hv⟩
  .left;refine⟨p,?_⟩;show (if i<s.np then g.J i else _)=_;rw[aSn pQ];exact hp
  right;refine⟨n,v,?_⟩;show (if i<s.np then g.cur i n else _)=_;rw[aSn pQ];exact hv
 obtain⟨o,h1,h2⟩:=IP hb;have ho:=(a1d hk h1).2 pQ;subst ho;unfold z7 at h2;split at h2
 .rename_i t x toks heq;split at h2
  .simp only[qJ.cells.injEq] at h2;obtain⟨rfl,_⟩:=h2;exact hg.ty o u x toks hi heq
  cases hy:z6 k.ids t x with
  |none=>rw[hy] at h2;cases h2
  |some y=>
   rw[hy] at h2;simp only[a0m,qJ.cells.injEq] at h2;obtain⟨rfl,_⟩:=h2;exact hg.ty o u x toks hi heq
 .cases h2
 .split at h2<;>cases h2
 .split at h2<;>cases h2
 .cases h2
 cases h2
def IQ {B:Nat}{A:Nat->Nat->Prop}{L:List qJ}{g0 g:Gh}{w0 w:q9}{s:St}{a:Act}(h:uK B g w s a) (hg:tE A L g0 w0 g w s.H) (hnp:s.np=L.length) (k:wC):
  ∃g',uK B g' w (s.keep k) a/\tE A L g0 w0 g' w (s.keep k).H/\(s.keep k).np=L.length/\(s.keep k).N=s.N:=by
 unfold St.keep;cases hk:x7 s.np k.ids with
 |false=>
  refine⟨g,⟨fun t=>⟨trivial,trivial⟩,⟨(fun i b h=>by cases h),(fun i j bi bj b o _ h=>by cases h),h.heap.sl,h.heap.tab.1,(fun i b bb oo h=>by cases h)⟩,h.size,h.nb,h.def_,h.np⟩,⟨hg.shut,hg.fr,(fun i blk b o h=>by cases h),hg.J,hg.live,(fun i u y us _ h=>by cases h),hg.cur⟩,hnp,rfl⟩
 |true=>
  have:=a1g h hg hnp k hk;unfold St.keep at this;rw[hk] at this;exact⟨_,this⟩
end Go.Proofs.YtcpbaddnmpeipaaGreatDoor.Vc
